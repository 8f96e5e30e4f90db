/- Contracts of functions of this seat: each call comes to what its Lean function computes; no condition beyond what each theorem states. Printed by a program of this session's own laid over the kit's printer. -/
import Derived.Test.YtegcaniikdibdaaDoorVFaultTextsx0
import Derived.Test.YtegcaniikdibdaaDoorVFaultTextsx1
import Derived.Test.YtegcaniikdibdaaDoorVFaultTextsx3
import Derived.Test.YtegcaniikdibdaaDoorVFaultTextsx14
import Derived.Test.YtegcaniikdibdaaDoorVFaultTextsx18
import Derived.Test.YtegcaniikdibdaaDoorVFaultTextsx20
namespace Go.Proofs.YtegcaniikdibdaaDoor.VFaultTexts
open Go.RowKit Go.Proofs.YtegcaniikdibdaaDoorW.PrintWords Go.Proofs.YtegcaniikdibdaaDoorW.PrintLast Go.Proofs.YtegcaniikdibdaaDoorW.PrintMore
attribute [local go_sem] max2_int min2_int max_two min_two max_three min_three max_four min_four   -- for this text's walks alone
set_option linter.unusedVariables false
set_option linter.unusedSimpArgs false

-- @GIVEN lib_ops
/-- The operations that an error came through. -/
def Er.ops : Er → List ByteArray
  | .num _ => []
  | .wrap o _ e => o :: e.ops
  | .many e _ => e.ops
theorem Er.ops_sz : ∀ e : Er, e.ops.length ≤ e.sz
  | .num _ => by simp [Er.ops]
  | .wrap _ _ e => by have := e.ops_sz; simp [Er.ops, Er.sz]; omega
  | .many e l => by have := e.ops_sz; simp [Er.ops, Er.sz]; omega
theorem infoS : (Tryd.prog.info? 9).map (fun i => (i.zero, i.size, i.bytes)) = some (some (.string ⟨#[]⟩), 1, 16) := by kernel_rfl
theorem app_str {w w0 : World} {B B' m n : Nat} {v sv : Value} {xs ys : List ByteArray} (h : w.ownsRow B 9 1 v m (xs.map .string)) (h' : w.ownsRow B' 9 1 sv n (ys.map .string)) (hn : 0 < n) (hl : m + n ≤ 100000) (hB : B ≤ w.heap.size) (hb : Below B w0 w) :
    ∃ v' w', (Builtin.append_ #[42, 42] 42 #[v, sv]).run Tryd.prog w = .ok v' w' ∧ w'.ownsRow B 9 1 v' (m + n) ((xs ++ ys).map .string) ∧ Below B w0 w' ∧ ∀ k o, v.ownBlock ≠ some k → w.heap[k]? = some o → w'.heap[k]? = some o := by
  obtain ⟨i0, hi0, he⟩ := Option.map_eq_some_iff.1 infoS
  simp only [Prod.mk.injEq] at he
  obtain ⟨hz0, hzs, hzb⟩ := he
  obtain ⟨g, c, rfl, _, _, hc, hcell⟩ := row_open h' hn
  obtain ⟨v', w', hrun, hown, hgr, _⟩ := run_append_own (P := Tryd.prog) w B 42 42 9 i0 (.string ⟨#[]⟩) 1 16 Tryd.underlying42 hi0 hz0 hzs hzb rfl (by decide) v m _ h ⟨g, 0, none⟩ n c (ys.map .string) (by have := h'.1; simpa using this) (fun j u hu => by rw [add_plain]; exact hcell j u hu) (fun u hu => by obtain ⟨x, _, rfl⟩ := List.mem_map.1 hu; rfl) (by unfold maxLen; omega) (by omega) hB
  refine ⟨v', w', hrun, by rw [List.map_append]; exact hown, hb.grown hgr hB (own_base h), fun k o hk ho => (hgr.block k (blk_lt ho) (fun e => hk e.symm)).trans ho⟩
theorem app_str0 (w : World) (v : Value) (hv : ∃ A n c, v = .slice A n c ∧ n ≤ c) : (Builtin.append_ #[42, 42] 42 #[v, .slice none 0 0]).run Tryd.prog w = .ok v w := by
  obtain ⟨A, n, c, rfl, hc⟩ := hv
  cases A <;> simp [Builtin.append_, Sem.run_bind, run_underlying Tryd.underlying42, Result.andThen, Builtin.lenOf, Builtin.firstCells, storeCells, hc]
theorem cell_kept9 {W W' : World} {p : Addr} {v : Value} (h : W.cell? p = some v) (hk : ∀ (k : Nat) (o : Obj), W.heap[k]? = some o → W'.heap[k]? = some o) : W'.cell? p = some v := by
  have hl := World.block_lt_of_cell? W p h
  refine (World.cell?_of_block (w := W) ?_).trans h
  rw [Array.getElem?_eq_getElem hl]
  exact hk _ _ (Array.getElem?_eq_getElem hl)
theorem own_sl {w : World} {B e s n : Nat} {v : Value} {xs : List Value} (h : w.ownsRow B e s v n xs) : ∃ A n c, v = .slice A n c ∧ n ≤ c := by
  rcases h.2 with ⟨h0, h1⟩ | ⟨g, c, cur, h0, h1, h2, h3, _⟩
  · exact ⟨none, 0, 0, h0, Nat.le_refl _⟩
  · exact ⟨_, n, c, h0, h3⟩
/-- A row of strings; nil where there are none. -/
def StrRow (w : World) (B : Nat) (sv : Value) (xs : List ByteArray) : Prop := w.ownsRow B 9 1 sv xs.length (xs.map .string) ∧ (xs = [] → sv = .slice none 0 0)
theorem StrRow.nil (w : World) (B : Nat) : StrRow w B (.slice none 0 0) [] := ⟨own_nil _ _ _ _, fun _ => rfl⟩
theorem StrRow.below {w w' : World} {B : Nat} {sv : Value} {xs : List ByteArray} (h : StrRow w B sv xs) (hb : Below w.heap.size w w') : StrRow w' B sv xs := ⟨pw_own_below h.1 hb, h.2⟩
theorem StrRow.lower {w : World} {B B' : Nat} {sv : Value} {xs : List ByteArray} (h : StrRow w (B + 1) sv xs) (hB : B' ≤ B := by omega) : StrRow w B' sv xs := ⟨own_lower h.1 hB, h.2⟩
theorem app_rows {w w0 : World} {B B' : Nat} {v sv : Value} {xs ys : List ByteArray} (h : StrRow w B v xs) (h' : StrRow w B' sv ys) (hl : xs.length + ys.length ≤ 100000) (hB : B ≤ w.heap.size) (hb : Below B w0 w) :
    ∃ v' w', (Builtin.append_ #[42, 42] 42 #[v, sv]).run Tryd.prog w = .ok v' w' ∧ StrRow w' B v' (xs ++ ys) ∧ Below B w0 w' ∧ ∀ k o, v.ownBlock ≠ some k → w.heap[k]? = some o → w'.heap[k]? = some o := by
  cases ys with
  | nil =>
    rw [h'.2 rfl]
    exact ⟨v, w, app_str0 w v (own_sl h.1), by rw [List.append_nil]; exact h, hb, fun _ _ _ ho => ho⟩
  | cons y ys =>
    obtain ⟨v', w', h1, h2, h3, h4⟩ := app_str (B' := B') h.1 h'.1 (by simp) hl hB hb
    exact ⟨v', w', h1, ⟨by rw [List.length_append]; exact h2, fun e => by simp at e⟩, h3, h4⟩
theorem app_lit {w w0 : World} {B : Nat} {v : Value} {xs : List ByteArray} (s : ByteArray) (h : StrRow w B v xs) (hl : xs.length ≤ 10000) (hB : B ≤ w.heap.size) (hb : Below B w0 w) :
    ∃ v' w', (Builtin.append_ #[42, 42] 42 #[v, .slice (some ⟨w.heap.size, 0, none⟩) 1 1]).run Tryd.prog (w.alloc (.cells #[.string s] 9)) = .ok v' w' ∧ StrRow w' B v' (xs ++ [s]) ∧ Below B w0 w' ∧ ∀ k o, v.ownBlock ≠ some k → w.heap[k]? = some o → w'.heap[k]? = some o := by
  have hba := below_alloc (Below.refl w.heap.size w) (.cells #[.string s] 9)
  have hlit : (w.alloc (.cells #[.string s] 9)).ownsRow w.heap.size 9 1 (.slice (some ⟨w.heap.size, 0, none⟩) 1 1) 1 ([s].map .string) := by
    have h := World.ownsRow_lit (base := w.heap.size) (e := 9) (size := 1) w #[.string s] 1 (Nat.le_refl _) (by decide) rfl
    simpa using h
  obtain ⟨v', w', h1, h2, h3, h4⟩ := app_str (w0 := w0) (B := B) (pw_own_below h.1 hba) hlit (by decide) (by omega) (Nat.le_trans hB hba.size) (below_then hb hB hba)
  exact ⟨v', w', h1, ⟨by rw [List.length_append]; exact h2, fun e => by simp at e⟩, h3, fun k o hk ho => h4 k o hk (obj_below hba ho)⟩
set_option maxHeartbeats 8000000 in
set_option maxRecDepth 100000 in
theorem opsT_num (n : Int) (w : World) : Calls Tryd.prog 15 #[.iface 36 (.int .i64 n)] w fun r w' => r = .returned (.slice none 0 0) ∧ w' = w := by
  go_enter Tryd.func15, Tryd.ntmps15
  go_wp2_with (first
    | (go_at_call 42; (refine (itself_num n _).mono ?_); rintro r w5 ⟨rfl, rfl⟩)
    | (go_at_call 43; (refine (below_num n _).mono ?_); rintro r w5 ⟨rfl, rfl⟩))
  refine wp_loop_rounds 1 ?_
  rw [rounds_succ]
  go_wp2
  go_ret
  exact ⟨rfl, rfl⟩
set_option maxHeartbeats 8000000 in
set_option maxRecDepth 100000 in
/-- The operations of such an error. -/
theorem ops_tree : ∀ (e : Er) (v : Value) (w : World), e.two → e.sz ≤ 1000 → ErV w v e →
    Calls Tryd.prog 15 #[v] w fun r w' => ∃ sv, r = .returned sv ∧ StrRow w' w.heap.size sv e.ops ∧ Below w.heap.size w w' := by
  intro e
  induction e with
  | num n =>
    intro v w _ _ h
    obtain rfl : v = .iface 36 (.int .i64 n) := h
    refine (opsT_num n w).mono ?_
    rintro r w' ⟨rfl, rfl⟩
    exact ⟨_, rfl, StrRow.nil _ _, Below.refl _ _⟩
  | wrap o p e ih =>
    intro v w h2 hs h
    obtain ⟨g, v1, rfl, hg, hv1⟩ := h
    obtain ⟨t1, x1, rfl⟩ := hv1.iface
    have HG := Aside0.mk hg
    have HV := Aside0.mk hv1
    have hsz := e.ops_sz
    have HZ := Aside0.mk (show e.ops.length ≤ 1000 ∧ e.sz ≤ 1000 by simp only [Er.sz] at hs; omega)
    have h2e : e.two := h2
    have IH := Aside0.mk (fun (W : World) (hv : ErV W (.iface t1 x1) e) => ih (.iface t1 x1) W h2e HZ.out.2 hv)
    have hg0 := (blk_cell hg 0).trans rfl
    obtain ⟨v6, w6, hrun, ho6, hb6, hk6⟩ := app_lit (w0 := w) o (StrRow.nil w w.heap.size) (by decide) (Nat.le_refl _) (Below.refl _ _)
    have HRUN := Aside0.mk hrun
    have HO6 := Aside0.mk ho6
    have HB6 := Aside0.mk hb6
    clear ih h2 hs hg hv1 hsz h2e hrun ho6 hb6 hk6
    show Calls _ _ _ _ fun r w' => ∃ sv, r = .returned sv ∧ StrRow w' w.heap.size sv (o :: e.ops) ∧ Below w.heap.size w w'
    go_enter Tryd.func15, Tryd.ntmps15
    go_wp2_with (first
      | (go_at_call 42; (refine (itself_fault g _).mono ?_); rintro r w5 ⟨rfl, hw5⟩; obtain rfl := hw5.symm)
      | (at_builtin; refine Lib.wpList_append_run _ rfl _ _ _ _ rfl _ _ rfl rfl _ _ HRUN.out ?_)
      | (go_at_call 43; (refine (below_wrap g o p t1 x1 _ (blk_below HG.out HB6.out)).mono ?_); rintro r w7 ⟨gb, rfl, hc7, hb7⟩; have HB7 := Aside0.mk (below_step HB6.out hb7); have HO7 := Aside0.mk (HO6.out.below hb7); clear hb7))
    refine wp_loop_rounds 2 ?_
    rw [rounds_succ]
    go_wp2_with (first
      | (go_at_call 15; (refine (IH.out _ (HV.out.below HB7.out)).mono ?_); rintro r w8 ⟨sv, rfl, ho8, hb8⟩; obtain ⟨v9, w9, hrun9, ho9, hb9, hk9⟩ := app_rows (w0 := w) (HO7.out.below hb8) ho8 (by have := HZ.out; simp; omega) (Nat.le_trans HB7.out.size hb8.size) (below_step HB7.out hb8); have HRUN9 := Aside0.mk hrun9; have HO9 := Aside0.mk ho9; have HB9 := Aside0.mk hb9; clear ho8 hb8 hrun9 ho9 hb9 hk9)
      | (at_builtin; refine Lib.wpList_append_run _ rfl _ _ _ _ rfl _ _ rfl rfl _ _ HRUN9.out ?_))
    rw [rounds_succ]
    go_wp2
    go_ret
    exact ⟨_, rfl, HO9.out, HB9.out⟩
  | many e l ih =>
    intro v w h2 hs h
    obtain ⟨sv, v1, rfl, hr, _, hv1⟩ := h
    obtain ⟨h21, h22⟩ := h2
    obtain ⟨m, rfl⟩ := List.length_eq_one_iff.1 h21
    obtain ⟨t1, x1, rfl⟩ := hv1.iface
    have HR := Aside0.mk hr
    have HV := Aside0.mk hv1
    have hsz := e.ops_sz
    have HZ := Aside0.mk (show e.ops.length ≤ 1000 ∧ e.sz ≤ 1000 by simp only [Er.sz] at hs; omega)
    have IH := Aside0.mk (fun (W : World) (hv : ErV W (.iface t1 x1) e) => ih (.iface t1 x1) W h22 HZ.out.2 hv)
    clear ih h21 h22 hs hr hv1 hsz
    show Calls _ _ _ _ fun r w' => ∃ sv, r = .returned sv ∧ StrRow w' w.heap.size sv e.ops ∧ Below w.heap.size w w'
    go_enter Tryd.func15, Tryd.ntmps15
    go_wp2_with (first
      | (go_at_call 42; (refine (itself_many _ _).mono ?_); rintro r w5 ⟨rfl, hw5⟩; obtain rfl := hw5.symm)
      | (go_at_call 43; (refine (below_many t1 x1 sv m _ HR.out).mono ?_); rintro r w7 ⟨gb, cb, rfl, hc7, hd7, hb7⟩; have HB7 := Aside0.mk hb7; have HD7 := Aside0.mk hd7; clear hb7 hd7))
    refine wp_loop_rounds 3 ?_
    rw [rounds_succ]
    go_wp2_with (first
      | (go_at_call 15; (refine (IH.out _ (HV.out.below HB7.out)).mono ?_); rintro r w8 ⟨sv8, rfl, ho8, hb8⟩; obtain ⟨v9, w9, hrun9, ho9, hb9, hk9⟩ := app_rows (B := w.heap.size) (w0 := w) (StrRow.nil _ _) ho8 (by have := HZ.out; simp; omega) (Nat.le_trans HB7.out.size hb8.size) (below_step HB7.out hb8); have hd9 := cell_kept9 (pw_cell_below hb8 HD7.out) (fun k o ho => hk9 k o (by simp [Value.ownBlock]) ho); unfold eNum at hd9; have HRUN9 := Aside0.mk hrun9; have HO9 := Aside0.mk ho9; have HB9 := Aside0.mk hb9; clear ho8 hb8 hrun9 ho9 hb9 hk9)
      | (at_builtin; refine Lib.wpList_append_run _ rfl _ _ _ _ rfl _ _ rfl rfl _ _ HRUN9.out ?_))
    rw [rounds_succ]
    go_wp2_with (first
      | (go_at_call 15; (refine (opsT_num m _).mono ?_); rintro r w10 ⟨rfl, rfl⟩; have HA0 := Aside0.mk (app_str0 w10 _ (own_sl HO9.out.1)))
      | (at_builtin; refine Lib.wpList_append_run _ rfl _ _ _ _ rfl _ _ rfl rfl _ _ HA0.out ?_))
    rw [rounds_succ]
    go_wp2
    go_ret
    exact ⟨_, rfl, by simpa using HO9.out, HB9.out⟩


end Go.Proofs.YtegcaniikdibdaaDoor.VFaultTexts
