/- Contracts of functions of this seat: each call comes to what its Lean function computes; no condition beyond what each theorem states. Printed by a program of this session's own laid over the kit's printer. -/
import Derived.Test.YtegcaniikdibdaaDoorVFaultTextsx0
import Derived.Test.YtegcaniikdibdaaDoorVFaultTextsx1
import Derived.Test.YtegcaniikdibdaaDoorVFaultTextsx14
namespace Go.Proofs.YtegcaniikdibdaaDoor.VFaultTexts
open Go.RowKit Go.Proofs.YtegcaniikdibdaaDoorW.PrintWords Go.Proofs.YtegcaniikdibdaaDoorW.PrintLast Go.Proofs.YtegcaniikdibdaaDoorW.PrintMore
attribute [local go_sem] max2_int min2_int max_two min_two max_three min_three max_four min_four   -- for this text's walks alone
set_option linter.unusedVariables false
set_option linter.unusedSimpArgs false

-- @GIVEN lib_nums
/-- All numbers of an error, in order. -/
def Er.nums : Er → List Int
  | .num n => [n]
  | .wrap _ _ e => e.nums
  | .many e l => e.nums ++ l
theorem Er.nums_pos : ∀ e : Er, 0 < e.nums.length
  | .num _ => by simp [Er.nums]
  | .wrap _ _ e => e.nums_pos
  | .many e l => by have := e.nums_pos; simp [Er.nums]; omega
theorem Er.nums_sz : ∀ e : Er, e.nums.length ≤ e.sz
  | .num _ => by simp [Er.nums, Er.sz]
  | .wrap _ _ e => by have := e.nums_sz; simp [Er.nums, Er.sz]; omega
  | .many e l => by have := e.nums_sz; simp [Er.nums, Er.sz]; omega
/-- All its many are of two. -/
def Er.two : Er → Prop
  | .num _ => True
  | .wrap _ _ e => e.two
  | .many e l => l.length = 1 ∧ e.two
theorem infoI : (Tryd.prog.info? 3).map (fun i => (i.zero, i.size, i.bytes)) = some (some (.int .i64 0), 1, 8) := by kernel_rfl
theorem app_int {w w0 : World} {B B' m n : Nat} {v sv : Value} {xs ys : List Int} (h : w.ownsRow B 3 1 v m (xs.map (.int .i64))) (h' : w.ownsRow B' 3 1 sv n (ys.map (.int .i64))) (hn : 0 < n) (hl : m + n ≤ 100000) (hB : B ≤ w.heap.size) (hb : Below B w0 w) :
    ∃ v' w', (Builtin.append_ #[33, 33] 33 #[v, sv]).run Tryd.prog w = .ok v' w' ∧ w'.ownsRow B 3 1 v' (m + n) ((xs ++ ys).map (.int .i64)) ∧ Below B w0 w' ∧ ∀ k o, k < B → w.heap[k]? = some o → w'.heap[k]? = some o := by
  obtain ⟨i0, hi0, he⟩ := Option.map_eq_some_iff.1 infoI
  simp only [Prod.mk.injEq] at he
  obtain ⟨hz0, hzs, hzb⟩ := he
  obtain ⟨g, c, rfl, _, _, hc, hcell⟩ := row_open h' hn
  obtain ⟨v', w', hrun, hown, hgr, _⟩ := run_append_own (P := Tryd.prog) w B 33 33 3 i0 (.int .i64 0) 1 8 Tryd.underlying33 hi0 hz0 hzs hzb rfl (by decide) v m _ h ⟨g, 0, none⟩ n c (ys.map (.int .i64)) (by have := h'.1; simpa using this) (fun j u hu => by rw [add_plain]; exact hcell j u hu) (fun u hu => by obtain ⟨x, _, rfl⟩ := List.mem_map.1 hu; rfl) (by unfold maxLen; omega) (by omega) hB
  refine ⟨v', w', hrun, by rw [List.map_append]; exact hown, hb.grown hgr hB (own_base h), fun k o hk ho => (hgr.block k (blk_lt ho) (fun e => by have := own_base h k e.symm; omega)).trans ho⟩
theorem own_lower {w : World} {B B' e s n : Nat} {v : Value} {xs : List Value} (h : w.ownsRow (B + 1) e s v n xs) (hB : B' ≤ B := by omega) : w.ownsRow B' e s v n xs := by
  refine ⟨h.1, ?_⟩
  rcases h.2 with h0 | ⟨g, c, cur, h0, h1, h2⟩
  · exact .inl h0
  · exact .inr ⟨g, c, cur, h0, by omega, h2⟩
set_option maxHeartbeats 8000000 in
set_option maxRecDepth 100000 in
theorem numbers_num (m : Int) (w : World) : Calls Tryd.prog 12 #[.agg #[.int .i64 3, .int .i64 0, .int .i64 m, .string ⟨#[]⟩, .slice none 0 0]] w fun r w' => ∃ sv, r = .returned sv ∧ w'.ownsRow w.heap.size 3 1 sv 1 ([m].map (.int .i64)) ∧ Below w.heap.size w w' := by
  go_enter Tryd.func12, Tryd.ntmps12
  go_wp2
  go_ret
  have h := own_lit (w.alloc (.cells #[.int .i64 3, .int .i64 0, .int .i64 m, .string ⟨#[]⟩, .slice none 0 0] 30)) w.heap.size 3 .i64 [m] (by simp) (by simp)
  exact ⟨_, rfl, by simpa [nums] using h, below_alloc (below_alloc (Below.refl _ _) _) _⟩
set_option maxHeartbeats 8000000 in
set_option maxRecDepth 100000 in
/-- The document's numbers of a node. -/
theorem numbers_tree (B : Nat) : ∀ (e : Er) (k a n : Int) (op : ByteArray) (sl : Value) (w : World), e.two → e.sz ≤ 1000 → NodeV w B k a n op sl e →
    Calls Tryd.prog 12 #[.agg #[.int .i64 k, .int .i64 a, .int .i64 n, .string op, sl]] w fun r w' => ∃ sv, r = .returned sv ∧ w'.ownsRow w.heap.size 3 1 sv e.nums.length (e.nums.map (.int .i64)) ∧ Below w.heap.size w w' := by
  intro e
  induction e with
  | num m =>
    intro k a n op sl w _ _ h
    obtain ⟨rfl, rfl, rfl, rfl, rfl⟩ := h
    exact numbers_num n w
  | wrap o p e ih =>
    intro k a n op sl w h2 hs h
    obtain ⟨rfl, rfl, rfl, rfl, g, k1, a1, n1, o1, s1, rfl, _, hg, hn⟩ := h
    have hba := below_alloc (Below.refl w.heap.size w) (.cells #[.int .i64 1, .int .i64 a, .int .i64 0, .string op, .slice (some ⟨g, 0, none⟩) 1 1] 30)
    have HBA := Aside0.mk hba
    have HX := Aside0.mk (blk_new w (.cells #[.int .i64 1, .int .i64 a, .int .i64 0, .string op, .slice (some ⟨g, 0, none⟩) 1 1] 30))
    obtain ⟨sA, sn, sc, rfl⟩ := hn.slice
    have HN := Aside0.mk (hn.below hba)
    have hz := e.nums_sz
    have HZ := Aside0.mk (show e.nums.length ≤ 1000 ∧ e.sz ≤ 1000 by simp only [Er.sz] at hs; omega)
    have HP := Aside0.mk e.nums_pos
    have h2e : e.two := h2
    have IH := Aside0.mk (fun (W : World) (hv : NodeV W B k1 a1 n1 o1 (.slice sA sn sc) e) => ih k1 a1 n1 o1 (.slice sA sn sc) W h2e HZ.out.2 hv)
    have hgg := blk_below hg hba
    have c0 := (blk_cell HX.out 0).trans rfl
    have c4 := (blk_cell HX.out 4).trans rfl
    have q0 := (blk_cell hgg 0).trans rfl
    have q1 := (blk_cell hgg 1).trans rfl
    have q2 := (blk_cell hgg 2).trans rfl
    have q3 := (blk_cell hgg 3).trans rfl
    have q4 := (blk_cell hgg 4).trans rfl
    clear hba ih h2 hs hg hn hgg hz h2e
    show Calls _ _ _ _ fun r w' => ∃ sv, r = .returned sv ∧ w'.ownsRow w.heap.size 3 1 sv e.nums.length (e.nums.map (.int .i64)) ∧ Below w.heap.size w w'
    go_enter Tryd.func12, Tryd.ntmps12
    go_wp2
    refine wp_loop_rounds 2 ?_
    rw [rounds_succ]
    go_wp2_with (first
      | (go_at_call 12; (refine (IH.out _ HN.out).mono ?_); rintro r w5 ⟨sv, rfl, ho, hb⟩; obtain ⟨v6, w6, hrun, ho6, hb6, hk6⟩ := app_int (B := w.heap.size + 1) (w0 := w.alloc (.cells #[.int .i64 1, .int .i64 a, .int .i64 0, .string op, .slice (some ⟨g, 0, none⟩) 1 1] 30)) (xs := []) (own_nil w5 (w.heap.size + 1) 3 1) ho HP.out (by have := HZ.out; omega) (by have := hb.size; simpa using this) (by simpa using hb); have HRUN := Aside0.mk hrun; have HO6 := Aside0.mk ho6; have HB6 := Aside0.mk hb6; have hX6 := hk6 _ _ (Nat.lt_succ_self _) (blk_below HX.out hb); have c4 := (blk_cell hX6 4).trans rfl; clear ho hb hrun ho6 hb6 hk6 hX6 q0 q1 q2 q3 q4)
      | (at_builtin; refine Lib.wpList_append_run _ rfl _ _ _ _ rfl _ _ rfl rfl _ _ HRUN.out ?_))
    rw [rounds_succ]
    go_wp2
    go_ret
    exact ⟨_, rfl, own_lower (by simpa using HO6.out), below_then HBA.out (by simp) (by simpa using HB6.out)⟩
  | many e l ih =>
    intro k a n op sl w h2 hs h
    obtain ⟨rfl, rfl, rfl, rfl, g, k1, a1, n1, o1, s1, m, rfl, _, rfl, hg, hn⟩ := h
    have hba := below_alloc (Below.refl w.heap.size w) (.cells #[.int .i64 2, .int .i64 0, .int .i64 0, .string ⟨#[]⟩, .slice (some ⟨g, 0, none⟩) 2 2] 30)
    have HBA := Aside0.mk hba
    have HX := Aside0.mk (blk_new w (.cells #[.int .i64 2, .int .i64 0, .int .i64 0, .string ⟨#[]⟩, .slice (some ⟨g, 0, none⟩) 2 2] 30))
    obtain ⟨sA, sn, sc, rfl⟩ := hn.slice
    have HN := Aside0.mk (hn.below hba)
    have hz := e.nums_sz
    have HZ := Aside0.mk (show e.nums.length ≤ 1000 ∧ e.sz ≤ 1000 by simp only [Er.sz] at hs; omega)
    have HP := Aside0.mk e.nums_pos
    have h2e : e.two := h2.2
    have IH := Aside0.mk (fun (W : World) (hv : NodeV W B k1 a1 n1 o1 (.slice sA sn sc) e) => ih k1 a1 n1 o1 (.slice sA sn sc) W h2e HZ.out.2 hv)
    have hgg := blk_below hg hba
    have HGG := Aside0.mk hgg
    have c0 := (blk_cell HX.out 0).trans rfl
    have c4 := (blk_cell HX.out 4).trans rfl
    have q0 := (blk_cell hgg 0).trans rfl
    have q1 := (blk_cell hgg 1).trans rfl
    have q2 := (blk_cell hgg 2).trans rfl
    have q3 := (blk_cell hgg 3).trans rfl
    have q4 := (blk_cell hgg 4).trans rfl
    have HGL := Aside0.mk (blk_lt hg)
    clear hba ih h2 hs hg hn hgg hz h2e
    show Calls _ _ _ _ fun r w' => ∃ sv, r = .returned sv ∧ w'.ownsRow w.heap.size 3 1 sv (e.nums ++ [m]).length ((e.nums ++ [m]).map (.int .i64)) ∧ Below w.heap.size w w'
    go_enter Tryd.func12, Tryd.ntmps12
    go_wp2
    refine wp_loop_rounds 3 ?_
    rw [rounds_succ]
    go_wp2_with (first
      | (go_at_call 12; (refine (IH.out _ HN.out).mono ?_); clear IH; rintro r w5 ⟨sv, rfl, ho, hb⟩; obtain ⟨v6, w6, hrun, ho6, hb6, hk6⟩ := app_int (B := w.heap.size + 1) (w0 := w.alloc (.cells #[.int .i64 2, .int .i64 0, .int .i64 0, .string ⟨#[]⟩, .slice (some ⟨g, 0, none⟩) 2 2] 30)) (xs := []) (own_nil w5 (w.heap.size + 1) 3 1) ho HP.out (by have := HZ.out; omega) (by have := hb.size; simpa using this) (by simpa using hb); have HRUN := Aside0.mk hrun; have HO6 := Aside0.mk ho6; have HB6 := Aside0.mk hb6; have HX6 := Aside0.mk (hk6 _ _ (Nat.lt_succ_self _) (blk_below HX.out hb)); have HG6 := Aside0.mk (hk6 _ _ (Nat.lt_succ_of_lt HGL.out) (blk_below HGG.out hb)); have c4 := (blk_cell HX6.out 4).trans rfl; have q0 := (blk_cell HG6.out 5).trans rfl; have q1 := (blk_cell HG6.out 6).trans rfl; have q2 := (blk_cell HG6.out 7).trans rfl; have q3 := (blk_cell HG6.out 8).trans rfl; have q4 := (blk_cell HG6.out 9).trans rfl; clear ho hb hrun ho6 hb6 hk6)
      | (go_at_call 12; (refine (numbers_num m _).mono ?_); rintro r w7 ⟨sv7, rfl, ho, hb⟩; obtain ⟨v8, w8, hrun, ho8, hb8, hk8⟩ := app_int (B := w.heap.size + 1) (w0 := w.alloc (.cells #[.int .i64 2, .int .i64 0, .int .i64 0, .string ⟨#[]⟩, .slice (some ⟨g, 0, none⟩) 2 2] 30)) (pw_own_below HO6.out hb) ho (by decide) (by have := HZ.out; omega) (by have h1_ := hb.size; have h2_ := HB6.out.size; simp at h2_; omega) (below_then HB6.out (by have h2_ := HB6.out.size; simpa using h2_) hb); have HRUN8 := Aside0.mk hrun; have HO8 := Aside0.mk ho8; have HB8 := Aside0.mk hb8; have hX8 := hk8 _ _ (Nat.lt_succ_self _) (blk_below HX6.out hb); have c4 := (blk_cell hX8 4).trans rfl; clear ho hb hrun ho8 hb8 hk8 hX8)
      | (at_builtin; first | (refine Lib.wpList_append_run _ rfl _ _ _ _ rfl _ _ rfl rfl _ _ HRUN.out ?_) | (refine Lib.wpList_append_run _ rfl _ _ _ _ rfl _ _ rfl rfl _ _ HRUN8.out ?_)))
    rw [rounds_succ]
    go_wp2_with (first
      | (go_at_call 12; (refine (IH.out _ HN.out).mono ?_); clear IH; rintro r w5 ⟨sv, rfl, ho, hb⟩; obtain ⟨v6, w6, hrun, ho6, hb6, hk6⟩ := app_int (B := w.heap.size + 1) (w0 := w.alloc (.cells #[.int .i64 2, .int .i64 0, .int .i64 0, .string ⟨#[]⟩, .slice (some ⟨g, 0, none⟩) 2 2] 30)) (xs := []) (own_nil w5 (w.heap.size + 1) 3 1) ho HP.out (by have := HZ.out; omega) (by have := hb.size; simpa using this) (by simpa using hb); have HRUN := Aside0.mk hrun; have HO6 := Aside0.mk ho6; have HB6 := Aside0.mk hb6; have HX6 := Aside0.mk (hk6 _ _ (Nat.lt_succ_self _) (blk_below HX.out hb)); have HG6 := Aside0.mk (hk6 _ _ (Nat.lt_succ_of_lt HGL.out) (blk_below HGG.out hb)); have c4 := (blk_cell HX6.out 4).trans rfl; have q0 := (blk_cell HG6.out 5).trans rfl; have q1 := (blk_cell HG6.out 6).trans rfl; have q2 := (blk_cell HG6.out 7).trans rfl; have q3 := (blk_cell HG6.out 8).trans rfl; have q4 := (blk_cell HG6.out 9).trans rfl; clear ho hb hrun ho6 hb6 hk6)
      | (go_at_call 12; (refine (numbers_num m _).mono ?_); rintro r w7 ⟨sv7, rfl, ho, hb⟩; obtain ⟨v8, w8, hrun, ho8, hb8, hk8⟩ := app_int (B := w.heap.size + 1) (w0 := w.alloc (.cells #[.int .i64 2, .int .i64 0, .int .i64 0, .string ⟨#[]⟩, .slice (some ⟨g, 0, none⟩) 2 2] 30)) (pw_own_below HO6.out hb) ho (by decide) (by have := HZ.out; omega) (by have h1_ := hb.size; have h2_ := HB6.out.size; simp at h2_; omega) (below_then HB6.out (by have h2_ := HB6.out.size; simpa using h2_) hb); have HRUN8 := Aside0.mk hrun; have HO8 := Aside0.mk ho8; have HB8 := Aside0.mk hb8; have hX8 := hk8 _ _ (Nat.lt_succ_self _) (blk_below HX6.out hb); have c4 := (blk_cell hX8 4).trans rfl; clear ho hb hrun ho8 hb8 hk8 hX8)
      | (at_builtin; first | (refine Lib.wpList_append_run _ rfl _ _ _ _ rfl _ _ rfl rfl _ _ HRUN.out ?_) | (refine Lib.wpList_append_run _ rfl _ _ _ _ rfl _ _ rfl rfl _ _ HRUN8.out ?_)))
    rw [rounds_succ]
    go_wp2
    go_ret
    exact ⟨_, rfl, own_lower (by simpa using HO8.out), below_then HBA.out (by simp) (by simpa using HB8.out)⟩
set_option maxHeartbeats 8000000 in
set_option maxRecDepth 100000 in
theorem has_num (op2 : ByteArray) (pl : Int) (m : Int) (w : World) : Calls Tryd.prog 14 #[.agg #[.int .i64 3, .int .i64 0, .int .i64 m, .string ⟨#[]⟩, .slice none 0 0], .string op2, .int .i64 pl] w fun r w' => r = .returned (.bool false) ∧ Below w.heap.size w w' := by
  go_enter Tryd.func14, Tryd.ntmps14
  go_wp2
  refine wp_loop_rounds 1 ?_
  rw [rounds_succ]
  go_wp2
  go_ret
  exact ⟨rfl, below_alloc (Below.refl _ _) _⟩
set_option maxHeartbeats 8000000 in
set_option maxRecDepth 100000 in
/-- The document's question for a fault. -/
theorem has_tree (B : Nat) (op2 : ByteArray) (pl : Int) : ∀ (e : Er) (k a n : Int) (op : ByteArray) (sl : Value) (w : World), e.two → NodeV w B k a n op sl e →
    Calls Tryd.prog 14 #[.agg #[.int .i64 k, .int .i64 a, .int .i64 n, .string op, sl], .string op2, .int .i64 pl] w fun r w' => r = .returned (.bool (e.hasF op2 pl)) ∧ Below w.heap.size w w' := by
  intro e
  induction e with
  | num m =>
    intro k a n op sl w _ h
    obtain ⟨rfl, rfl, rfl, rfl, rfl⟩ := h
    exact has_num op2 pl n w
  | wrap o p e ih =>
    intro k a n op sl w h2 h
    obtain ⟨rfl, rfl, rfl, rfl, g, k1, a1, n1, o1, s1, rfl, _, hg, hn⟩ := h
    have hba := below_alloc (Below.refl w.heap.size w) (.cells #[.int .i64 1, .int .i64 a, .int .i64 0, .string op, .slice (some ⟨g, 0, none⟩) 1 1] 30)
    have HBA := Aside0.mk hba
    have HX := Aside0.mk (blk_new w (.cells #[.int .i64 1, .int .i64 a, .int .i64 0, .string op, .slice (some ⟨g, 0, none⟩) 1 1] 30))
    obtain ⟨sA, sn, sc, rfl⟩ := hn.slice
    have HN := Aside0.mk (hn.below hba)
    have h2e : e.two := h2
    have IH := Aside0.mk (fun (W : World) (hv : NodeV W B k1 a1 n1 o1 (.slice sA sn sc) e) => ih k1 a1 n1 o1 (.slice sA sn sc) W h2e hv)
    have hgg := blk_below hg hba
    have c0 := (blk_cell HX.out 0).trans rfl
    have c1 := (blk_cell HX.out 1).trans rfl
    have c3 := (blk_cell HX.out 3).trans rfl
    have c4 := (blk_cell HX.out 4).trans rfl
    have q0 := (blk_cell hgg 0).trans rfl
    have q1 := (blk_cell hgg 1).trans rfl
    have q2 := (blk_cell hgg 2).trans rfl
    have q3 := (blk_cell hgg 3).trans rfl
    have q4 := (blk_cell hgg 4).trans rfl
    clear hba ih h2 hg hn hgg h2e
    show Calls _ _ _ _ fun r w' => r = .returned (.bool (hitF op2 pl op a || e.hasF op2 pl)) ∧ Below w.heap.size w w'
    generalize e.hasF op2 pl = q at IH ⊢
    unfold hitF
    rcases Bool.eq_false_or_eq_true (op2.toList == []) with a1_ | a1_ <;> rcases Bool.eq_false_or_eq_true (op2.toList == op.toList) with a2_ | a2_ <;> rcases Bool.eq_false_or_eq_true (pl == -1) with a3_ | a3_ <;> rcases Bool.eq_false_or_eq_true (pl == a) with a4_ | a4_
    all_goals
      rw [a1_, a2_, a3_, a4_]
      have b1_ := a1_
      try rw [beq_iff_eq] at b1_
      try rw [beq_eq_false_iff_ne] at b1_
      go_enter Tryd.func14, Tryd.ntmps14
      go_wp2
      first
      | (go_ret; exact ⟨rfl, HBA.out⟩)
      | (refine wp_loop_rounds 2 ?_
         rw [rounds_succ]
         cases q with
         | true =>
           go_wp2_with (go_at_call 14; (refine (IH.out _ HN.out).mono ?_); rintro r w5 ⟨rfl, hb⟩; have HB5 := Aside0.mk (below_step HBA.out hb); have hX5 := blk_below HX.out hb; have c4 := (blk_cell hX5 4).trans rfl; clear hb hX5)
           go_ret
           exact ⟨rfl, HB5.out⟩
         | false =>
           go_wp2_with (go_at_call 14; (refine (IH.out _ HN.out).mono ?_); rintro r w5 ⟨rfl, hb⟩; have HB5 := Aside0.mk (below_step HBA.out hb); have hX5 := blk_below HX.out hb; have c4 := (blk_cell hX5 4).trans rfl; clear hb hX5)
           rw [rounds_succ]
           go_wp2
           go_ret
           exact ⟨rfl, HB5.out⟩)
  | many e l ih =>
    intro k a n op sl w h2 h
    obtain ⟨rfl, rfl, rfl, rfl, g, k1, a1, n1, o1, s1, m, rfl, _, rfl, hg, hn⟩ := h
    have hba := below_alloc (Below.refl w.heap.size w) (.cells #[.int .i64 2, .int .i64 0, .int .i64 0, .string ⟨#[]⟩, .slice (some ⟨g, 0, none⟩) 2 2] 30)
    have HBA := Aside0.mk hba
    have HX := Aside0.mk (blk_new w (.cells #[.int .i64 2, .int .i64 0, .int .i64 0, .string ⟨#[]⟩, .slice (some ⟨g, 0, none⟩) 2 2] 30))
    obtain ⟨sA, sn, sc, rfl⟩ := hn.slice
    have HN := Aside0.mk (hn.below hba)
    have h2e : e.two := h2.2
    have IH := Aside0.mk (fun (W : World) (hv : NodeV W B k1 a1 n1 o1 (.slice sA sn sc) e) => ih k1 a1 n1 o1 (.slice sA sn sc) W h2e hv)
    have hgg := blk_below hg hba
    have HGG := Aside0.mk hgg
    have c0 := (blk_cell HX.out 0).trans rfl
    have c4 := (blk_cell HX.out 4).trans rfl
    have q0 := (blk_cell hgg 0).trans rfl
    have q1 := (blk_cell hgg 1).trans rfl
    have q2 := (blk_cell hgg 2).trans rfl
    have q3 := (blk_cell hgg 3).trans rfl
    have q4 := (blk_cell hgg 4).trans rfl
    clear hba ih h2 hg hn hgg h2e
    show Calls _ _ _ _ fun r w' => r = .returned (.bool (e.hasF op2 pl)) ∧ Below w.heap.size w w'
    generalize e.hasF op2 pl = q at IH ⊢
    cases q with
    | true =>
      go_enter Tryd.func14, Tryd.ntmps14
      go_wp2
      refine wp_loop_rounds 1 ?_
      rw [rounds_succ]
      go_wp2_with (go_at_call 14; (refine (IH.out _ HN.out).mono ?_); rintro r w5 ⟨rfl, hb⟩; have HB5 := Aside0.mk (below_step HBA.out hb); clear hb)
      go_ret
      exact ⟨rfl, HB5.out⟩
    | false =>
      go_enter Tryd.func14, Tryd.ntmps14
      go_wp2
      refine wp_loop_rounds 3 ?_
      rw [rounds_succ]
      go_wp2_with (first
        | (go_at_call 14; (refine (IH.out _ HN.out).mono ?_); clear IH; rintro r w5 ⟨rfl, hb⟩; have HB5 := Aside0.mk (below_step HBA.out hb); have HX5 := Aside0.mk (blk_below HX.out hb); have hG5 := blk_below HGG.out hb; have c4 := (blk_cell HX5.out 4).trans rfl; have q0 := (blk_cell hG5 5).trans rfl; have q1 := (blk_cell hG5 6).trans rfl; have q2 := (blk_cell hG5 7).trans rfl; have q3 := (blk_cell hG5 8).trans rfl; have q4 := (blk_cell hG5 9).trans rfl; clear hb hG5)
        | (go_at_call 14; (refine (has_num op2 pl m _).mono ?_); rintro r w7 ⟨rfl, hb⟩; have HB7 := Aside0.mk (below_step HB5.out hb); have hX7 := blk_below HX5.out hb; have c4 := (blk_cell hX7 4).trans rfl; clear hb hX7))
      rw [rounds_succ]
      go_wp2_with (first
        | (go_at_call 14; (refine (IH.out _ HN.out).mono ?_); clear IH; rintro r w5 ⟨rfl, hb⟩; have HB5 := Aside0.mk (below_step HBA.out hb); have HX5 := Aside0.mk (blk_below HX.out hb); have hG5 := blk_below HGG.out hb; have c4 := (blk_cell HX5.out 4).trans rfl; have q0 := (blk_cell hG5 5).trans rfl; have q1 := (blk_cell hG5 6).trans rfl; have q2 := (blk_cell hG5 7).trans rfl; have q3 := (blk_cell hG5 8).trans rfl; have q4 := (blk_cell hG5 9).trans rfl; clear hb hG5)
        | (go_at_call 14; (refine (has_num op2 pl m _).mono ?_); rintro r w7 ⟨rfl, hb⟩; have HB7 := Aside0.mk (below_step HB5.out hb); have hX7 := blk_below HX5.out hb; have c4 := (blk_cell hX7 4).trans rfl; clear hb hX7))
      rw [rounds_succ]
      go_wp2
      go_ret
      exact ⟨rfl, HB7.out⟩


end Go.Proofs.YtegcaniikdibdaaDoor.VFaultTexts
