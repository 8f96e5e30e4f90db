/- Contracts of functions of this seat: each call comes to what its Lean function computes; no condition beyond what each theorem states. Printed by a program of this session's own laid over the kit's printer. -/
import Derived.Deep.RegionHeld3
import Derived.Outline
import Derived.Test.YtekjkbocblonmaaDoorVCodeGetsx0
import Derived.Test.YtekjkbocblonmaaDoorVCodeGetsx3
import Derived.Test.YtekjkbocblonmaaDoorVCodeGetsx4
import Derived.Test.YtekjkbocblonmaaDoorVCodeGetsx5
namespace Go.Proofs.YtekjkbocblonmaaDoor.VCodeGets
open Go.RowKit Go.Proofs.YtekjkbocblonmaaDoorW.PrintWords Go.Proofs.YtekjkbocblonmaaDoorW.PrintLast Go.Proofs.YtekjkbocblonmaaDoorW.PrintMore
attribute [local go_sem] max2_int min2_int max_two min_two max_three min_three max_four min_four   -- for this text's walks alone
set_option linter.unusedVariables false
set_option linter.unusedSimpArgs false

-- @GIVEN code_Put
/-! ### code_Put: by hand -/
def code_Put.l0 : Nat → List S35 → ByteArray → Int → Option (ByteArray × Option Int)
  | 0, _, _, _ => none
  | k + 1, l, acc, i => if i < (l.length : Int) then ((code_Right.f k (rd_T35 l i).f0 (rd_T35 l i).f1 (rd_T35 l i).f2 (rd_T35 l i).f3).bind fun t => if t = true then ((le_Put.f k (wrap64 ((rd_T35 l i).f3 + 2147483648)) 4).bind fun s => if acc.size + s.size ≤ 140737488000000 then code_Put.l0 k l (acc ++ (strOfNums [IntKind.u8.wrap (rd_T35 l i).f0, IntKind.u8.wrap (rd_T35 l i).f1, IntKind.u8.wrap (rd_T35 l i).f2, 0] ++ s)) (i + 1) else none) else some (⟨#[]⟩, some 1)) else some (acc, none)
def code_Put.f (k : Nat) (l : List S35) : Option (ByteArray × Option Int) := if (l.length : Int) > 128 then some (⟨#[]⟩, some 10) else code_Put.l0 k l ⟨#[]⟩ 0
set_option maxRecDepth 100000 in
theorem code_Put.mono_l : ∀ k, ∀ y0 y1 y2, LeO (code_Put.l0 k y0 y1 y2) (code_Put.l0 (k + 1) y0 y1 y2)
  | 0 => fun _ _ _ r h => by first | (rw [code_Put.l0] at h; cases h) | simp [code_Put.l0] at h
  | k + 1 => by
    have ih0 := code_Put.mono_l k
    intro y0 y1 y2
    rw [code_Put.l0, code_Put.l0]
    refine LeO.ite (LeO.bind (code_Right.mono _ _ _ _ k) fun t => LeO.ite (LeO.bind (le_Put.mono _ _ k) fun s => LeO.ite (ih0 _ _ _) (LeO.refl _)) (LeO.refl _)) (LeO.refl _)
theorem code_Put.mono : ∀ a0 k, LeO (code_Put.f k a0) (code_Put.f (k + 1) a0) := by
  intro a0 k
  unfold code_Put.f
  exact LeO.ite (LeO.refl _) (code_Put.mono_l k _ _ _)

theorem code_Put.conv4 {W : World} {g : Nat} {a b c : Int} (h : W.heap[g]? = some (.cells #[.int .u8 a, .int .u8 b, .int .u8 c, .int .u8 0] 5 (0, 0))) :
    (convert 67 9 (.slice (some ⟨g, 0, none⟩) 4 4)).run Tryd.prog W = .ok (.string (strOfNums [a, b, c, 0])) W := by
  refine own_string (base := 0) (n := 4) (e' := 5) Tryd.underlying67 Tryd.underlying5 Tryd.underlying9 ⟨rfl, .inr ⟨g, 4, _, rfl, Nat.zero_le _, h, Nat.le_refl _, by unfold maxLen; decide, rfl, rfl⟩⟩
theorem code_Put.size4 (a b c d : Int) : (strOfNums [a, b, c, d]).size = 4 := by simp [strOfNums, ByteArray.size]
set_option maxHeartbeats 8000000 in
set_option maxRecDepth 100000 in
theorem code_Put.calls (k : Nat) (A0 : Option Addr) (c0 : Nat) (l0 : List S35) (r1 : ByteArray) (r2 : Option Int) (w : World) (hr0 : Kd.C k35 w A0 l0.length l0) (hc0 : l0.length ≤ c0) (h : code_Put.f k l0 = some (r1, r2)) :
    Calls Tryd.prog 14 #[.slice A0 l0.length c0] w fun e w' => e = .returned (.tuple #[.string r1, errW r2]) ∧ Below w.heap.size w w' := by
  have HR0 := Aside0.mk hr0
  clear hr0 hc0
  have HB := Aside0.mk (Below.refl w.heap.size w)
  have hblies : BLies 69 [] := by unfold BLies; kernel_rfl
  have HLI := Aside0.mk hblies
  clear hblies
  have H : (if (l0.length : Int) > 128 then some (⟨#[]⟩, some 10) else code_Put.l0 k l0 ⟨#[]⟩ 0) = some (r1, r2) := h
  clear h
  by_cases c2 : (l0.length : Int) > 128
  · rw [if_pos c2] at H
    have c2b0 : decide (128 < (l0.length : Int)) = true := decide_eq_true c2
    have c2b1 : decide (128 < l0.length) = true := decide_eq_true (by omega)
    clear c2
    simp only [Option.some.injEq, Prod.mk.injEq] at H
    obtain ⟨rfl, rfl⟩ := H
    go_enter Tryd.func14, Tryd.ntmps14
    go_wp2
    go_ret2
    exact ⟨rfl, HB.out⟩
  · rw [if_neg c2] at H
    have c2b0 : decide (128 < (l0.length : Int)) = false := decide_eq_false c2
    have c2b1 : decide (128 < l0.length) = false := decide_eq_false (by omega)
    have hlen : l0.length ≤ 128 := by omega
    clear c2
    have H' := Aside0.mk H
    clear H
    go_enter Tryd.func14, Tryd.ntmps14
    go_wp2
    go_loopg [13] k (fun kq v13 w' => ∃ (acc : ByteArray) (i : Int), v13 = .int .i64 i ∧ Aside0 (0 ≤ i) ∧ Aside0 (code_Put.l0 kq l0 acc i = some (r1, r2)) ∧ Aside0 (kq ≤ k) ∧ Aside0 (BOut 69 [] w.heap.size w.heap.size (Lib.strCells acc) w') ∧ Aside0 (Below w.heap.size w w'))
    case atStart =>
      refine ⟨⟨#[]⟩, 0, rfl, ⟨Int.le_refl _⟩, H', ⟨Nat.le_refl _⟩, ⟨.inl ⟨Nat.le_refl _, .slice none 0 0, heap_alloc_new w _, World.ownsRow_nil _ _ _ _, by simp [Value.ownBlock], fun _ => rfl⟩⟩, ⟨below_alloc HB.out _⟩⟩
    case round =>
      clear H' HB
      obtain ⟨acc, i, rfl, hi0, HA, HK1, HBO, HB⟩ := hrel
      cases gk with
      | zero => exact absurd HA.out (by simp [code_Put.l0])
      | succ k1 =>
        have H := HA.out
        clear HA
        rw [code_Put.l0] at H
        by_cases c3 : i < (l0.length : Int)
        · rw [if_pos c3] at H
          have c3b0 : decide (i < (l0.length : Int)) = true := decide_eq_true c3
          obtain ⟨ad, e105, hx0, hx1, hx2, hx3⟩ := at_T35 HR0.out i hi0.out c3
          cases e105
          have p105 := eq_true hi0.out
          have q105 := eq_true c3
          clear c3
          replace hx0 := (HB.out.cell (World.block_lt_of_cell? w _ hx0)).trans hx0
          replace hx1 := (HB.out.cell (World.block_lt_of_cell? w _ hx1)).trans hx1
          replace hx2 := (HB.out.cell (World.block_lt_of_cell? w _ hx2)).trans hx2
          replace hx3 := (HB.out.cell (World.block_lt_of_cell? w _ hx3)).trans hx3
          generalize rd_T35 l0 i = x at *
          obtain ⟨t, A50, H⟩ := Option.bind_eq_some_iff.mp H
          have A5 := Aside0.mk A50
          clear A50
          go_wp2_with (((with_reducible refine gate_dst (N := 6) rfl ?_); refine box_event ?hg (N := 6) ?hd (cs := #[.int .i64 0, .int .i64 0, .int .i64 0, .int .i64 0]) (t := 35) ?hr ?_; (case hd => rfl); (case hg => rfl); (case hr => first | (go_simp; done) | (go_simp; rfl)); intro gb hg w5 hbox hb; have n0_ := Aside0.mk (HBO.out.below hb); have n1_ := Aside0.mk (below_step HB.out hb); have n2_ := Aside0.mk hbox; have n3_ := Aside0.mk (show gb ≠ w.heap.size from by have := HBO.out.lt; omega); have n4_ := Aside0.mk (show w.heap.size ≤ gb from by have := HBO.out.lt; omega); clear HBO HB; have HBO := n0_; have HB := n1_; have BK := n2_; have HNE := n3_; have HGE := n4_; clear n0_ n1_ n2_ n3_ n4_; clear hb hbox hg; have hcz0 : w5.cell? ⟨gb, 0, none⟩ = some (.int .i64 0) := (blk_cell BK.out 0).trans rfl; have hcz1 : w5.cell? ⟨gb, 1, none⟩ = some (.int .i64 0) := (blk_cell BK.out 1).trans rfl; have hcz2 : w5.cell? ⟨gb, 2, none⟩ = some (.int .i64 0) := (blk_cell BK.out 2).trans rfl; have hcz3 : w5.cell? ⟨gb, 3, none⟩ = some (.int .i64 0) := (blk_cell BK.out 3).trans rfl; have hfz0 := blk_frozen BK.out 0; have hfz1 := blk_frozen BK.out 1; have hfz2 := blk_frozen BK.out 2; have hfz3 := blk_frozen BK.out 3))
          have BK4 := Aside0.mk (show ((((w5.setCell ⟨gb, 0, none⟩ (.int .i64 x.f0)).setCell ⟨gb, 1, none⟩ (.int .i64 x.f1)).setCell ⟨gb, 2, none⟩ (.int .i64 x.f2)).setCell ⟨gb, 3, none⟩ (.int .i64 x.f3)).heap[gb]? = some (.cells #[.int .i64 x.f0, .int .i64 x.f1, .int .i64 x.f2, .int .i64 x.f3] 35 (0, 0)) from by simpa using blk_set (blk_set (blk_set (blk_set BK.out 0 (.int .i64 x.f0)) 1 (.int .i64 x.f1)) 2 (.int .i64 x.f2)) 3 (.int .i64 x.f3))
          have HBO4 := Aside0.mk ((((HBO.out.far BK.out (by decide) HNE.out 0 (.int .i64 x.f0)).far (blk_set BK.out 0 _) (by decide) HNE.out 1 (.int .i64 x.f1)).far (blk_set (blk_set BK.out 0 _) 1 _) (by decide) HNE.out 2 (.int .i64 x.f2)).far (blk_set (blk_set (blk_set BK.out 0 _) 1 _) 2 _) (by decide) HNE.out 3 (.int .i64 x.f3))
          have HB4 := Aside0.mk (below_set (j := 3) (v := .int .i64 x.f3) (below_set (j := 2) (v := .int .i64 x.f2) (below_set (j := 1) (v := .int .i64 x.f1) (below_set (j := 0) (v := .int .i64 x.f0) HB.out HGE.out) HGE.out) HGE.out) HGE.out)
          clear HBO HB BK hcz0 hcz1 hcz2 hcz3 hfz0 hfz1 hfz2 hfz3
          generalize ((((w5.setCell ⟨gb, 0, none⟩ (.int .i64 x.f0)).setCell ⟨gb, 1, none⟩ (.int .i64 x.f1)).setCell ⟨gb, 2, none⟩ (.int .i64 x.f2)).setCell ⟨gb, 3, none⟩ (.int .i64 x.f3)) = W4 at *
          (with_reducible refine (code_Right.calls k1 x.f0 x.f1 x.f2 x.f3 t _ A5.out).mono ?_)
          rintro e w6 ⟨rfl, hb⟩
          have BK := Aside0.mk (blk_below BK4.out hb)
          have HBO := Aside0.mk (HBO4.out.below hb)
          have HB := Aside0.mk (below_step HB4.out hb)
          clear hb BK4 HBO4 HB4 A5
          have hcz0 : w6.cell? ⟨gb, 0, none⟩ = some (.int .i64 x.f0) := (blk_cell BK.out 0).trans rfl
          have hcz1 : w6.cell? ⟨gb, 1, none⟩ = some (.int .i64 x.f1) := (blk_cell BK.out 1).trans rfl
          have hcz2 : w6.cell? ⟨gb, 2, none⟩ = some (.int .i64 x.f2) := (blk_cell BK.out 2).trans rfl
          have hcz3 : w6.cell? ⟨gb, 3, none⟩ = some (.int .i64 x.f3) := (blk_cell BK.out 3).trans rfl
          cases t with
          | false =>
            simp only [Bool.false_eq_true, if_false, Option.some.injEq, Prod.mk.injEq] at H
            obtain ⟨rfl, rfl⟩ := H
            go_wp2
            go_ret2
            exact ⟨rfl, HB.out⟩
          | true =>
            simp only [if_true] at H
            obtain ⟨s, A70, H⟩ := Option.bind_eq_some_iff.mp H
            have A7 := Aside0.mk A70
            clear A70
            by_cases c8 : acc.size + s.size ≤ 140737488000000
            · rw [if_pos c8] at H
              have H' := Aside0.mk H
              have C8 := Aside0.mk c8
              clear H c8
              have hsz0 : (strOfNums [IntKind.u8.wrap x.f0, IntKind.u8.wrap x.f1, IntKind.u8.wrap x.f2, 0]).size + s.size ≤ 9223372036854775807 := by have := C8.out; rw [code_Put.size4]; omega
              have c8b0 := eq_true hsz0
              have c8b1 : decide ((strOfNums [IntKind.u8.wrap x.f0, IntKind.u8.wrap x.f1, IntKind.u8.wrap x.f2, 0]).size + s.size ≤ 9223372036854775807) = true := decide_eq_true hsz0
              have c8b2 : (9223372036854775807 < (strOfNums [IntKind.u8.wrap x.f0, IntKind.u8.wrap x.f1, IntKind.u8.wrap x.f2, 0]).size + s.size) = False := eq_false (Nat.not_lt.2 hsz0)
              clear hsz0
              go_wp2_with fail
              refine start_ (n := 17) (S := fun w' => w'.cell? ⟨gb, 0, none⟩ = some (.int .i64 x.f0) ∧ w'.cell? ⟨gb, 1, none⟩ = some (.int .i64 x.f1) ∧ w'.cell? ⟨gb, 2, none⟩ = some (.int .i64 x.f2) ∧ w'.cell? ⟨gb, 3, none⟩ = some (.int .i64 x.f3)) (ds := [16]) #[false, false, false, false, false, false, false, false, false, false, false, false, false, false, false, false, false] (by kernel_rfl) rfl rfl ⟨hcz0, hcz1, hcz2, hcz3⟩ (fun hHeld => ?_)
              have n0_ := Aside0.mk (BOut.drew HBO.out)
              have n1_ := Aside0.mk (below_drew1 HB.out)
              have n2_ := Aside0.mk (blk_drew BK.out)
              clear HBO HB BK hcz0 hcz1 hcz2 hcz3
              have HBO := n0_
              have HB := n1_
              have BK := n2_
              clear n0_ n1_ n2_
              generalize w6.drew = w11 at HBO HB BK hHeld ⊢
              refine pure_ (i := 0) (N := some 21) (v := ?_) (a' := ?_) #[true, false, false, false, false, false, false, false, false, false, false, false, false, false, false, false, false] rfl rfl (by kernel_rfl) (fun _ _ _ h => h) (Or.inl ⟨by rfl, ?_⟩) ?_ ?_
              rotate_left
              · intro w'
                go_simp
                with_reducible rfl
              rotate_left
              · simp only [Act.put, List.setIfInBounds_toArray, List.set_cons_zero, List.set_cons_succ, i64_w, i32_w]
                rfl
              refine pure_ (i := 3) (N := some 24) (v := ?_) (a' := ?_) #[true, false, false, true, false, false, false, false, false, false, false, false, false, false, false, false, false] rfl rfl (by kernel_rfl) (fun _ _ _ h => h) (Or.inl ⟨by rfl, ?_⟩) ?_ ?_
              rotate_left
              · intro w'
                go_simp
                with_reducible rfl
              rotate_left
              · simp only [Act.put, List.setIfInBounds_toArray, List.set_cons_zero, List.set_cons_succ, i64_w, i32_w]
                rfl
              refine pure_ (i := 6) (N := some 27) (v := ?_) (a' := ?_) #[true, false, false, true, false, false, true, false, false, false, false, false, false, false, false, false, false] rfl rfl (by kernel_rfl) (fun _ _ _ h => h) (Or.inl ⟨by rfl, ?_⟩) ?_ ?_
              rotate_left
              · intro w'
                go_simp
                with_reducible rfl
              rotate_left
              · simp only [Act.put, List.setIfInBounds_toArray, List.set_cons_zero, List.set_cons_succ, i64_w, i32_w]
                rfl
              refine pure_ (i := 11) (N := some 32) (v := ?_) (a' := ?_) #[true, false, false, true, false, false, true, false, false, false, false, true, false, false, false, false, false] rfl rfl (by kernel_rfl) (fun _ _ _ h => h) (Or.inl ⟨by rfl, ?_⟩) ?_ ?_
              rotate_left
              · intro w'
                go_simp
                with_reducible rfl
              rotate_left
              · simp only [Act.put, List.setIfInBounds_toArray, List.set_cons_zero, List.set_cons_succ, i64_w, i32_w]
                rfl
              refine take_ (i := 1) (N := some 22) (v := ?_) (a' := ?_) #[true, true, false, true, false, false, true, false, false, false, false, true, false, false, false, false, false] rfl rfl (by kernel_rfl) (fun _ _ _ h => h) (Or.inl ⟨by rfl, ?_⟩) hHeld ?_ ?_
              rotate_left
              · rintro w' ⟨s0, s1, s2, s3⟩
                go_simp
                with_reducible rfl
              rotate_left
              · simp only [Act.put, List.setIfInBounds_toArray, List.set_cons_zero, List.set_cons_succ, i64_w, i32_w]
                rfl
              refine pure_ (i := 2) (N := some 23) (v := ?_) (a' := ?_) #[true, true, true, true, false, false, true, false, false, false, false, true, false, false, false, false, false] rfl rfl (by kernel_rfl) (fun _ _ _ h => h) (Or.inl ⟨by rfl, ?_⟩) ?_ ?_
              rotate_left
              · intro w'
                go_simp
                with_reducible rfl
              rotate_left
              · simp only [Act.put, List.setIfInBounds_toArray, List.set_cons_zero, List.set_cons_succ, i64_w, i32_w]
                rfl
              refine take_ (i := 4) (N := some 25) (v := ?_) (a' := ?_) #[true, true, true, true, true, false, true, false, false, false, false, true, false, false, false, false, false] rfl rfl (by kernel_rfl) (fun _ _ _ h => h) (Or.inl ⟨by rfl, ?_⟩) hHeld ?_ ?_
              rotate_left
              · rintro w' ⟨s0, s1, s2, s3⟩
                go_simp
                with_reducible rfl
              rotate_left
              · simp only [Act.put, List.setIfInBounds_toArray, List.set_cons_zero, List.set_cons_succ, i64_w, i32_w]
                rfl
              refine pure_ (i := 5) (N := some 26) (v := ?_) (a' := ?_) #[true, true, true, true, true, true, true, false, false, false, false, true, false, false, false, false, false] rfl rfl (by kernel_rfl) (fun _ _ _ h => h) (Or.inl ⟨by rfl, ?_⟩) ?_ ?_
              rotate_left
              · intro w'
                go_simp
                with_reducible rfl
              rotate_left
              · simp only [Act.put, List.setIfInBounds_toArray, List.set_cons_zero, List.set_cons_succ, i64_w, i32_w]
                rfl
              refine take_ (i := 7) (N := some 28) (v := ?_) (a' := ?_) #[true, true, true, true, true, true, true, true, false, false, false, true, false, false, false, false, false] rfl rfl (by kernel_rfl) (fun _ _ _ h => h) (Or.inl ⟨by rfl, ?_⟩) hHeld ?_ ?_
              rotate_left
              · rintro w' ⟨s0, s1, s2, s3⟩
                go_simp
                with_reducible rfl
              rotate_left
              · simp only [Act.put, List.setIfInBounds_toArray, List.set_cons_zero, List.set_cons_succ, i64_w, i32_w]
                rfl
              refine pure_ (i := 8) (N := some 29) (v := ?_) (a' := ?_) #[true, true, true, true, true, true, true, true, true, false, false, true, false, false, false, false, false] rfl rfl (by kernel_rfl) (fun _ _ _ h => h) (Or.inl ⟨by rfl, ?_⟩) ?_ ?_
              rotate_left
              · intro w'
                go_simp
                with_reducible rfl
              rotate_left
              · simp only [Act.put, List.setIfInBounds_toArray, List.set_cons_zero, List.set_cons_succ, i64_w, i32_w]
                rfl
              refine take_ (i := 12) (N := some 33) (v := ?_) (a' := ?_) #[true, true, true, true, true, true, true, true, true, false, false, true, true, false, false, false, false] rfl rfl (by kernel_rfl) (fun _ _ _ h => h) (Or.inl ⟨by rfl, ?_⟩) hHeld ?_ ?_
              rotate_left
              · rintro w' ⟨s0, s1, s2, s3⟩
                go_simp
                with_reducible rfl
              rotate_left
              · simp only [Act.put, List.setIfInBounds_toArray, List.set_cons_zero, List.set_cons_succ, i64_w, i32_w]
                rfl
              refine pure_ (i := 13) (N := some 34) (v := ?_) (a' := ?_) #[true, true, true, true, true, true, true, true, true, false, false, true, true, true, false, false, false] rfl rfl (by kernel_rfl) (fun _ _ _ h => h) (Or.inl ⟨by rfl, ?_⟩) ?_ ?_
              rotate_left
              · intro w'
                go_simp
                with_reducible rfl
              rotate_left
              · simp only [Act.put, List.setIfInBounds_toArray, List.set_cons_zero, List.set_cons_succ, i64_w, i32_w]
                rfl
              refine join_ (σ := Value) 2 #[true, true, true, true, true, true, true, true, true, true, true, true, true, true, true, false, false] (fun s_ => [(30, s_), (31, .string (strOfNums [IntKind.u8.wrap x.f0, IntKind.u8.wrap x.f1, IntKind.u8.wrap x.f2, 0])), (35, .string s)]) (fun s_ w' => (w'.heap[gb]? = some (.cells #[.int .i64 x.f0, .int .i64 x.f1, .int .i64 x.f2, .int .i64 x.f3] 35 (0, 0))) ∧ BOut 69 [] w.heap.size w.heap.size (Lib.strCells acc) w' ∧ Below w.heap.size w w') ?_ ?_
              rotate_left
              · intro hCont
                refine two_ (i := 9) (j := 14) (Ni := some 30) (Nj := some 35) #[true, true, true, true, true, true, true, true, true, true, false, true, true, true, false, false, false] #[true, true, true, true, true, true, true, true, true, false, false, true, true, true, true, false, false] rfl rfl rfl rfl (by kernel_rfl) (by decide) (by decide) (fun K hK => ?_) (fun K hK => ?_)
                · skip
                  refine Kd.R_lit_step (Kd.int .u8) _ 5 ?hg (N := 30) ?hd (xs := ([IntKind.u8.wrap x.f0, IntKind.u8.wrap x.f1, IntKind.u8.wrap x.f2, 0] : List Int)) (inner := [.int .u8 (IntKind.u8.wrap x.f0), .int .u8 (IntKind.u8.wrap x.f1), .int .u8 (IntKind.u8.wrap x.f2), .int .u8 (0)]) (ok := fun _ => True) (okp := fun _ => True) ?hr ?hp (fun _ hk => hk) trivial (Below.refl _ _) (Nat.le_refl _) (by simp) ?_; (case hd => rfl); (case hg => rfl); (case hr => first | (go_simp; done) | (go_simp; rfl)); (case hp => exact (Reps.one (show Kd.M (Kd.int .u8) _ _ _ (IntKind.u8.wrap x.f0) [.int .u8 (IntKind.u8.wrap x.f0)] from rfl) (Reps.one (show Kd.M (Kd.int .u8) _ _ _ (IntKind.u8.wrap x.f1) [.int .u8 (IntKind.u8.wrap x.f1)] from rfl) (Reps.one (show Kd.M (Kd.int .u8) _ _ _ (IntKind.u8.wrap x.f2) [.int .u8 (IntKind.u8.wrap x.f2)] from rfl) (Reps.one (show Kd.M (Kd.int .u8) _ _ _ 0 [.int .u8 0] from rfl) (Reps.none _ _))))))
                  intro v111 w12 ho13 hb hg_ hnew_
                  clear hg_ hnew_
                  have HO112 := Aside0.mk ho13
                  clear ho13
                  have n0_ := Aside0.mk (HBO.out.below hb)
                  have n1_ := Aside0.mk (below_step HB.out hb)
                  have n2_ := Aside0.mk (blk_below BK.out hb)
                  clear HBO HB BK
                  have HBO := n0_
                  have HB := n1_
                  have BK := n2_
                  clear n0_ n1_ n2_ hb
                  refine hK.out _ _ ⟨(blk_cell BK.out 0).trans rfl, (blk_cell BK.out 1).trans rfl, (blk_cell BK.out 2).trans rfl, (blk_cell BK.out 3).trans rfl⟩ (fun hHeld => ?_)
                  clear hK K
                  refine norm_ (a' := ?_) ?_ ?_
                  rotate_left
                  · show Act.put _ (some 30) _ = _
                    simp only [Act.put, List.setIfInBounds_toArray, List.set_cons_zero, List.set_cons_succ, i64_w, i32_w]
                    rfl
                  refine two_ (i := 10) (j := 14) (Ni := some 31) (Nj := some 35) #[true, true, true, true, true, true, true, true, true, true, true, true, true, true, false, false, false] #[true, true, true, true, true, true, true, true, true, true, false, true, true, true, true, false, false] rfl rfl rfl rfl (by kernel_rfl) (by decide) (by decide) (fun K hK => ?_) (fun K hK => ?_)
                  · skip
                    have hcv14 := own_string (P := Tryd.prog) Tryd.underlying67 Tryd.underlying5 Tryd.underlying9 (Kd.own_of_R HO112.out)
                    refine value_ (w1 := ?_) (v := ?_) (by rfl) rfl ?_ ?_
                    rotate_left 2
                    · go_simp
                      constructor
                      · rfl
                      · rfl
                    clear hcv14
                    refine hK.out _ _ ⟨(blk_cell BK.out 0).trans rfl, (blk_cell BK.out 1).trans rfl, (blk_cell BK.out 2).trans rfl, (blk_cell BK.out 3).trans rfl⟩ (fun hHeld => ?_)
                    clear hK K
                    refine norm_ (a' := ?_) ?_ ?_
                    rotate_left
                    · show Act.put _ (some 31) _ = _
                      simp only [Act.put, List.setIfInBounds_toArray, List.set_cons_zero, List.set_cons_succ, i64_w, i32_w]
                      rfl
                    refine one_ (i := 14) (N := some 35) #[true, true, true, true, true, true, true, true, true, true, true, true, true, true, true, false, false] rfl rfl (by kernel_rfl) (by decide) (fun K hK => ?_)
                    refine goes_ Tryd.func28 (by kernel_rfl) rfl #[.int .i64 (wrap64 (x.f3 + 2147483648)), .int .i64 4] (by rfl) rfl rfl (by simp only [List.map_toArray, List.map_cons, List.map_nil]; rfl) ?_
                    with_reducible refine (le_Put.calls k1 (wrap64 (x.f3 + 2147483648)) 4 s _ A7.out).mono ?_
                    rintro e w14 ⟨rfl, hb⟩
                    refine ⟨_, rfl, ?_⟩
                    have n3_ := Aside0.mk (Kd.R_below HO112.out hb)
                    clear HO112
                    have HO112 := n3_
                    clear n3_
                    have n0_ := Aside0.mk (HBO.out.below hb)
                    have n1_ := Aside0.mk (below_step HB.out hb)
                    have n2_ := Aside0.mk (blk_below BK.out hb)
                    clear HBO HB BK
                    have HBO := n0_
                    have HB := n1_
                    have BK := n2_
                    clear n0_ n1_ n2_ hb
                    refine hK.out _ _ ⟨(blk_cell BK.out 0).trans rfl, (blk_cell BK.out 1).trans rfl, (blk_cell BK.out 2).trans rfl, (blk_cell BK.out 3).trans rfl⟩ (fun hHeld => ?_)
                    clear hK K
                    refine norm_ (a' := ?_) ?_ ?_
                    rotate_left
                    · show Act.put _ (some 35) _ = _
                      simp only [Act.put, List.setIfInBounds_toArray, List.set_cons_zero, List.set_cons_succ, i64_w, i32_w]
                      rfl
                    exact norm_ (by simp only [putAll, Act.put, List.setIfInBounds_toArray, List.set_cons_zero, List.set_cons_succ]) (hCont v111 _ ⟨BK.out, HBO.out, HB.out⟩)
                  · skip
                    refine goes_ Tryd.func28 (by kernel_rfl) rfl #[.int .i64 (wrap64 (x.f3 + 2147483648)), .int .i64 4] (by rfl) rfl rfl (by simp only [List.map_toArray, List.map_cons, List.map_nil]; rfl) ?_
                    with_reducible refine (le_Put.calls k1 (wrap64 (x.f3 + 2147483648)) 4 s _ A7.out).mono ?_
                    rintro e w14 ⟨rfl, hb⟩
                    refine ⟨_, rfl, ?_⟩
                    have n3_ := Aside0.mk (Kd.R_below HO112.out hb)
                    clear HO112
                    have HO112 := n3_
                    clear n3_
                    have n0_ := Aside0.mk (HBO.out.below hb)
                    have n1_ := Aside0.mk (below_step HB.out hb)
                    have n2_ := Aside0.mk (blk_below BK.out hb)
                    clear HBO HB BK
                    have HBO := n0_
                    have HB := n1_
                    have BK := n2_
                    clear n0_ n1_ n2_ hb
                    refine hK.out _ _ ⟨(blk_cell BK.out 0).trans rfl, (blk_cell BK.out 1).trans rfl, (blk_cell BK.out 2).trans rfl, (blk_cell BK.out 3).trans rfl⟩ (fun hHeld => ?_)
                    clear hK K
                    refine norm_ (a' := ?_) ?_ ?_
                    rotate_left
                    · show Act.put _ (some 35) _ = _
                      simp only [Act.put, List.setIfInBounds_toArray, List.set_cons_zero, List.set_cons_succ, i64_w, i32_w]
                      rfl
                    refine one_ (i := 10) (N := some 31) #[true, true, true, true, true, true, true, true, true, true, true, true, true, true, true, false, false] rfl rfl (by kernel_rfl) (by decide) (fun K hK => ?_)
                    have hcv14 := own_string (P := Tryd.prog) Tryd.underlying67 Tryd.underlying5 Tryd.underlying9 (Kd.own_of_R HO112.out)
                    refine value_ (w1 := ?_) (v := ?_) (by rfl) rfl ?_ ?_
                    rotate_left 2
                    · go_simp
                      constructor
                      · rfl
                      · rfl
                    clear hcv14
                    refine hK.out _ _ ⟨(blk_cell BK.out 0).trans rfl, (blk_cell BK.out 1).trans rfl, (blk_cell BK.out 2).trans rfl, (blk_cell BK.out 3).trans rfl⟩ (fun hHeld => ?_)
                    clear hK K
                    refine norm_ (a' := ?_) ?_ ?_
                    rotate_left
                    · show Act.put _ (some 31) _ = _
                      simp only [Act.put, List.setIfInBounds_toArray, List.set_cons_zero, List.set_cons_succ, i64_w, i32_w]
                      rfl
                    exact norm_ (by simp only [putAll, Act.put, List.setIfInBounds_toArray, List.set_cons_zero, List.set_cons_succ]) (hCont v111 _ ⟨BK.out, HBO.out, HB.out⟩)
                · skip
                  refine goes_ Tryd.func28 (by kernel_rfl) rfl #[.int .i64 (wrap64 (x.f3 + 2147483648)), .int .i64 4] (by rfl) rfl rfl (by simp only [List.map_toArray, List.map_cons, List.map_nil]; rfl) ?_
                  with_reducible refine (le_Put.calls k1 (wrap64 (x.f3 + 2147483648)) 4 s _ A7.out).mono ?_
                  rintro e w14 ⟨rfl, hb⟩
                  refine ⟨_, rfl, ?_⟩
                  have n0_ := Aside0.mk (HBO.out.below hb)
                  have n1_ := Aside0.mk (below_step HB.out hb)
                  have n2_ := Aside0.mk (blk_below BK.out hb)
                  clear HBO HB BK
                  have HBO := n0_
                  have HB := n1_
                  have BK := n2_
                  clear n0_ n1_ n2_ hb
                  refine hK.out _ _ ⟨(blk_cell BK.out 0).trans rfl, (blk_cell BK.out 1).trans rfl, (blk_cell BK.out 2).trans rfl, (blk_cell BK.out 3).trans rfl⟩ (fun hHeld => ?_)
                  clear hK K
                  refine norm_ (a' := ?_) ?_ ?_
                  rotate_left
                  · show Act.put _ (some 35) _ = _
                    simp only [Act.put, List.setIfInBounds_toArray, List.set_cons_zero, List.set_cons_succ, i64_w, i32_w]
                    rfl
                  refine one_ (i := 9) (N := some 30) #[true, true, true, true, true, true, true, true, true, true, false, true, true, true, true, false, false] rfl rfl (by kernel_rfl) (by decide) (fun K hK => ?_)
                  refine Kd.R_lit_step (Kd.int .u8) _ 5 ?hg (N := 30) ?hd (xs := ([IntKind.u8.wrap x.f0, IntKind.u8.wrap x.f1, IntKind.u8.wrap x.f2, 0] : List Int)) (inner := [.int .u8 (IntKind.u8.wrap x.f0), .int .u8 (IntKind.u8.wrap x.f1), .int .u8 (IntKind.u8.wrap x.f2), .int .u8 (0)]) (ok := fun _ => True) (okp := fun _ => True) ?hr ?hp (fun _ hk => hk) trivial (Below.refl _ _) (Nat.le_refl _) (by simp) ?_; (case hd => rfl); (case hg => rfl); (case hr => first | (go_simp; done) | (go_simp; rfl)); (case hp => exact (Reps.one (show Kd.M (Kd.int .u8) _ _ _ (IntKind.u8.wrap x.f0) [.int .u8 (IntKind.u8.wrap x.f0)] from rfl) (Reps.one (show Kd.M (Kd.int .u8) _ _ _ (IntKind.u8.wrap x.f1) [.int .u8 (IntKind.u8.wrap x.f1)] from rfl) (Reps.one (show Kd.M (Kd.int .u8) _ _ _ (IntKind.u8.wrap x.f2) [.int .u8 (IntKind.u8.wrap x.f2)] from rfl) (Reps.one (show Kd.M (Kd.int .u8) _ _ _ 0 [.int .u8 0] from rfl) (Reps.none _ _))))))
                  intro v111 w12 ho13 hb hg_ hnew_
                  clear hg_ hnew_
                  have HO112 := Aside0.mk ho13
                  clear ho13
                  have n0_ := Aside0.mk (HBO.out.below hb)
                  have n1_ := Aside0.mk (below_step HB.out hb)
                  have n2_ := Aside0.mk (blk_below BK.out hb)
                  clear HBO HB BK
                  have HBO := n0_
                  have HB := n1_
                  have BK := n2_
                  clear n0_ n1_ n2_ hb
                  refine hK.out _ _ ⟨(blk_cell BK.out 0).trans rfl, (blk_cell BK.out 1).trans rfl, (blk_cell BK.out 2).trans rfl, (blk_cell BK.out 3).trans rfl⟩ (fun hHeld => ?_)
                  clear hK K
                  refine norm_ (a' := ?_) ?_ ?_
                  rotate_left
                  · show Act.put _ (some 30) _ = _
                    simp only [Act.put, List.setIfInBounds_toArray, List.set_cons_zero, List.set_cons_succ, i64_w, i32_w]
                    rfl
                  refine one_ (i := 10) (N := some 31) #[true, true, true, true, true, true, true, true, true, true, true, true, true, true, true, false, false] rfl rfl (by kernel_rfl) (by decide) (fun K hK => ?_)
                  have hcv14 := own_string (P := Tryd.prog) Tryd.underlying67 Tryd.underlying5 Tryd.underlying9 (Kd.own_of_R HO112.out)
                  refine value_ (w1 := ?_) (v := ?_) (by rfl) rfl ?_ ?_
                  rotate_left 2
                  · go_simp
                    constructor
                    · rfl
                    · rfl
                  clear hcv14
                  refine hK.out _ _ ⟨(blk_cell BK.out 0).trans rfl, (blk_cell BK.out 1).trans rfl, (blk_cell BK.out 2).trans rfl, (blk_cell BK.out 3).trans rfl⟩ (fun hHeld => ?_)
                  clear hK K
                  refine norm_ (a' := ?_) ?_ ?_
                  rotate_left
                  · show Act.put _ (some 31) _ = _
                    simp only [Act.put, List.setIfInBounds_toArray, List.set_cons_zero, List.set_cons_succ, i64_w, i32_w]
                    rfl
                  exact norm_ (by simp only [putAll, Act.put, List.setIfInBounds_toArray, List.set_cons_zero, List.set_cons_succ]) (hCont v111 _ ⟨BK.out, HBO.out, HB.out⟩)
              rintro s_ w15 ⟨hbk, hbo, hbl⟩
              have HBO' := Aside0.mk hbo
              have HB' := Aside0.mk hbl
              clear HBO HB
              have HBO := HBO'
              have HB := HB'
              clear HBO' HB' hbo hbl
              have hHeld : w15.cell? ⟨gb, 0, none⟩ = some (.int .i64 x.f0) ∧ w15.cell? ⟨gb, 1, none⟩ = some (.int .i64 x.f1) ∧ w15.cell? ⟨gb, 2, none⟩ = some (.int .i64 x.f2) ∧ w15.cell? ⟨gb, 3, none⟩ = some (.int .i64 x.f3) := ⟨(blk_cell hbk 0).trans rfl, (blk_cell hbk 1).trans rfl, (blk_cell hbk 2).trans rfl, (blk_cell hbk 3).trans rfl⟩
              clear hbk
              refine norm_ (a' := ?_) ?_ ?_
              rotate_left
              · simp only [putAll, Act.put, List.setIfInBounds_toArray, List.set_cons_zero, List.set_cons_succ]
                rfl
              refine pure_ (i := 15) (N := some 36) (v := ?_) (a' := ?_) #[true, true, true, true, true, true, true, true, true, true, true, true, true, true, true, true, false] rfl rfl (by kernel_rfl) (fun _ _ _ h => h) (Or.inl ⟨by rfl, ?_⟩) ?_ ?_
              rotate_left
              · intro w'
                go_simp
                with_reducible rfl
              rotate_left
              · simp only [Act.put, List.setIfInBounds_toArray, List.set_cons_zero, List.set_cons_succ, i64_w, i32_w]
                rfl
              refine last_ (i := 16) (N := some 37) #[true, true, true, true, true, true, true, true, true, true, true, true, true, true, true, true, true] rfl rfl (by kernel_rfl) (by decide) (fun K hK => ?_)
              refine goes_ Tryd.func31 (by kernel_rfl) rfl #[.pointer (some ⟨w.heap.size, 0, none⟩), .string (strOfNums [IntKind.u8.wrap x.f0, IntKind.u8.wrap x.f1, IntKind.u8.wrap x.f2, 0] ++ s)] (by rfl) rfl rfl (by simp only [List.map_toArray, List.map_cons, List.map_nil]; rfl) ?_
              with_reducible refine (bWrite 69 [] HLI.out (by decide) w.heap.size w.heap.size (Lib.strCells acc) (strOfNums [IntKind.u8.wrap x.f0, IntKind.u8.wrap x.f1, IntKind.u8.wrap x.f2, 0] ++ s) _ HBO.out (by have := C8.out; rw [Lib.strCells_length, ByteArray.size_append, code_Put.size4]; omega) HB.out.size).mono ?_
              rintro e w16 ⟨rfl, hbo, hbl, hbk⟩
              refine ⟨_, rfl, ?_⟩
              refine hK.out _ _ ?_
              clear hK K
              refine norm_ (a' := ?_) ?_ ?_
              rotate_left
              · show Act.put _ (some 37) _ = _
                simp only [Act.put, List.setIfInBounds_toArray, List.set_cons_zero, List.set_cons_succ, i64_w, i32_w]
                rfl
              refine done_ (by kernel_rfl) ?_
              have HBO' := Aside0.mk (show BOut 69 [] w.heap.size w.heap.size (Lib.strCells (acc ++ (strOfNums [IntKind.u8.wrap x.f0, IntKind.u8.wrap x.f1, IntKind.u8.wrap x.f2, 0] ++ s))) w16 from by rw [bcells_append]; exact hbo)
              have HB' := Aside0.mk (below_weaken HB.out (Nat.le_refl _) hbl)
              clear hbo hbl hbk HBO HB
              have hi1 : wrap64 (i + 1) = i + 1 := by have := of_eq_true p105; have := of_eq_true q105; unfold wrap64; omega
              have HI1 := Aside0.mk hi1
              clear hi1
              have HI := Aside0.mk (show 0 ≤ i + 1 from by have := of_eq_true p105; omega)
              go_wp2
              go_roundg k1
              case measure => have := HK1.out; omega
              case rel => exact ⟨_, i + 1, (by first | rfl | (rw [HI1.out])), HI, H', ⟨by have := HK1.out; omega⟩, HBO', HB'⟩
            · rw [if_neg c8] at H
              exact absurd H (by simp)
        · rw [if_neg c3] at H
          have c3b0 : decide (i < (l0.length : Int)) = false := decide_eq_false c3
          clear c3
          simp only [Option.some.injEq, Prod.mk.injEq] at H
          obtain ⟨rfl, rfl⟩ := H
          go_wp2_with (go_at_call 32; (with_reducible refine (bString 69 [] w.heap.size w.heap.size acc _ HBO.out).mono ?_); rintro e w6 ⟨rfl, hb⟩)
          go_ret2
          exact ⟨rfl, below_weaken HB.out (Nat.le_refl _) hb⟩


end Go.Proofs.YtekjkbocblonmaaDoor.VCodeGets
