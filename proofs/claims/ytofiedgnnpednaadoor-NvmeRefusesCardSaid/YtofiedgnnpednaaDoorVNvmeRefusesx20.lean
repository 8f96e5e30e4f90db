/- Contracts of functions of this seat: each call comes to what its Lean function computes; no condition beyond what each theorem states. Printed by a program of this session's own laid over the kit's printer. -/
import Derived.Test.YtofiedgnnpednaaDoorVNvmeRefusesx0
import Derived.Test.YtofiedgnnpednaaDoorVNvmeRefusesx1
import Derived.Test.YtofiedgnnpednaaDoorVNvmeRefusesx3
import Derived.Test.YtofiedgnnpednaaDoorVNvmeRefusesx8
import Derived.Test.YtofiedgnnpednaaDoorVNvmeRefusesx11
namespace Go.Proofs.YtofiedgnnpednaaDoor.VNvmeRefuses
open Go.RowKit Go.Proofs.YtofiedgnnpednaaDoorW.PrintWords Go.Proofs.YtofiedgnnpednaaDoorW.PrintLast Go.Proofs.YtofiedgnnpednaaDoorW.PrintMore
attribute [local go_sem] max2_int min2_int max_two min_two max_three min_three max_four min_four   -- for this text's walks alone
set_option linter.unusedVariables false
set_option linter.unusedSimpArgs false

-- @GIVEN slices_DeleteFunc_nvme
/-! ### slices_DeleteFunc_nvme: by hand -/
set_option maxHeartbeats 4000000 in
set_option maxRecDepth 100000 in
theorem nSame (bx : Nat) (c x : NC) (w : World) (hb : w.heap[bx]? = some (.cells #[.int .i64 c.kind, .int .i64 c.sector, .string c.data, .int .i64 c.tag] 38 (0, 0))) :
    Calls Tryd.prog 42 #[.agg #[.int .i64 x.kind, .int .i64 x.sector, .string x.data, .int .i64 x.tag], .pointer (some ⟨bx, 0, none⟩)] w fun r w' => r = .returned (.bool (x.sector == c.sector)) ∧ Below w.heap.size w w' := by
  have hb2 := (blk_cell (blk_alloc hb (.cells #[.int .i64 x.kind, .int .i64 x.sector, .string x.data, .int .i64 x.tag] 38)) 1).trans rfl
  clear hb
  go_enter Tryd.func42, Tryd.ntmps42
  go_wp2
  go_ret
  exact ⟨rfl, below_alloc (Below.refl _ _) _⟩
set_option maxHeartbeats 8000000 in
set_option maxRecDepth 100000 in
/-- The first command at the box's sector. -/
theorem nIndex (v : Value) (bx : Nat) (c : NC) (l : List NC) (B : Nat) (w : World) (h : w.ownsRow B 38 4 v l.length (flatN l)) (hl : l.length < 1000000000)
    (hb : w.heap[bx]? = some (.cells #[.int .i64 c.kind, .int .i64 c.sector, .string c.data, .int .i64 c.tag] 38 (0, 0))) :
    Calls Tryd.prog 57 #[v, .func (.func 42) #[] #[.pointer (some ⟨bx, 0, none⟩)]] w fun r w' =>
      ((r = .returned (.int .i64 (-1)) ∧ ∀ j, j < l.length → (l.getD j zeroN).sector ≠ c.sector) ∨ (∃ k : Nat, k < l.length ∧ r = .returned (.int .i64 k) ∧ (l.getD k zeroN).sector = c.sector ∧ ∀ j, j < k → (l.getD j zeroN).sector ≠ c.sector)) ∧ Below w.heap.size w w' := by
  obtain ⟨A, cap, rfl⟩ := own_form h
  have HR := Aside0.mk h
  have HB := Aside0.mk hb
  have HS := Aside0.mk (fun x W hW => nSame bx c x W hW)
  clear h hb
  go_enter Tryd.func57, Tryd.ntmps57
  go_wp2
  go_loopw [8] (fun i wr => ∃ k : Nat, k ≤ l.length ∧ i = .int .i64 k ∧ (∀ j, j < k → (l.getD j zeroN).sector ≠ c.sector) ∧ Below w.heap.size w wr) (fun i _ => l.length - (intOf i).toNat)
  case atStart => exact ⟨0, Nat.zero_le _, rfl, fun j hj => absurd hj (Nat.not_lt_zero j), Below.refl _ _⟩
  case round =>
    obtain ⟨k, hk, rfl, hn, hbl⟩ := hrel
    by_cases hlt : k < l.length
    · have hrow : wr.ownsRow B 38 4 (.slice A l.length cap) l.length (flatN l) := pw_own_below HR.out hbl
      obtain ⟨g, c', cur, e, _⟩ := row4_open hrow (by omega)
      cases e
      have hc : l[k]? = some (l.getD k zeroN) := by simp [hlt]
      obtain ⟨x0, x1, x2, x3⟩ := row4_cell hrow _ _ hc
      have HBr := Aside0.mk (blk_below HB.out hbl)
      have hp1 : decide ((k : Int) < (l.length : Int)) = true := decide_eq_true (by omega)
      have hw2 : wrap64 ((k : Int) + 1) = ((k + 1 : Nat) : Int) := by unfold wrap64; omega
      obtain ⟨x, hx⟩ : ∃ x, x = l.getD k zeroN := ⟨_, rfl⟩
      rw [← hx] at x0 x1 x2 x3
      have HX := Aside0.mk hx
      clear hrow HR HB hc hx
      obtain ⟨q, hq⟩ : ∃ q, (x.sector == c.sector) = q := ⟨_, rfl⟩
      have HSx := Aside0.mk (HS.out x wr HBr.out)
      rw [hq] at HSx
      clear HS
      cases q with
      | true =>
        go_wp2_with (first | (go_at_call 42; (with_reducible refine HSx.out.mono ?_); rintro e w5 ⟨rfl, hb5⟩) | fail)
        go_ret
        exact ⟨.inr ⟨k, hlt, rfl, by rw [← HX.out]; exact beq_iff_eq.1 hq, hn⟩, hbl.trans (hb5.mono (Below.size hbl))⟩
      | false =>
        go_wp2_with (first | (go_at_call 42; (with_reducible refine HSx.out.mono ?_); rintro e w5 ⟨rfl, hb5⟩) | fail)
        go_roundw
        case rel => exact ⟨k + 1, by omega, by simp, fun j hj => by
          by_cases e : j = k
          · rw [e, ← HX.out]
            exact beq_eq_false_iff_ne.1 hq
          · exact hn j (by omega), hbl.trans (hb5.mono (Below.size hbl))⟩
        case measure => simp only [intOf]; omega
    · obtain rfl : k = l.length := by omega
      go_wp2
      go_ret
      exact ⟨.inl ⟨rfl, hn⟩, hbl⟩
theorem filt_first (s : Int) (l : List NC) (k : Nat) (hk : k ≤ l.length) (hn : ∀ j, j < k → (l.getD j zeroN).sector ≠ s) : (l.take k).filter (fun x => x.sector != s) = l.take k := by
  rw [List.filter_eq_self]
  intro x hx
  obtain ⟨j, hj, e⟩ := List.getElem_of_mem hx
  have hj2 : j < k := by rw [List.length_take] at hj; omega
  have h2 := hn j hj2
  rw [List.getElem_take] at e
  simp only [List.getD_eq_getElem?_getD, List.getElem?_eq_getElem (show j < l.length by omega), Option.getD_some, e] at h2
  simpa using h2
theorem filt_succ (s : Int) (l : List NC) (k : Nat) (x : NC) (hx : l[k]? = some x) : (l.take (k + 1)).filter (fun x => x.sector != s) = (l.take k).filter (fun x => x.sector != s) ++ (if (x.sector == s) = true then [] else [x]) := by
  rw [List.take_add_one, hx, Option.toList_some, List.filter_append]
  congr 1
  by_cases h : x.sector = s <;> simp [h]
set_option maxHeartbeats 16000000 in
set_option maxRecDepth 100000 in
/-- The commands at the box's sector go out. -/
theorem nDelFunc (v : Value) (bx : Nat) (c : NC) (l : List NC) (B : Nat) (w : World) (h : w.ownsRow B 38 4 v l.length (flatN l)) (hl : l.length < 1000000000)
    (hb : w.heap[bx]? = some (.cells #[.int .i64 c.kind, .int .i64 c.sector, .string c.data, .int .i64 c.tag] 38 (0, 0))) (hv : v.ownBlock ≠ some bx) :
    Calls Tryd.prog 41 #[v, .func (.func 42) #[] #[.pointer (some ⟨bx, 0, none⟩)]] w fun r w' => ∃ v', r = .returned v' ∧ w'.ownsRow B 38 4 v' (l.filter fun x => x.sector != c.sector).length (flatN (l.filter fun x => x.sector != c.sector)) ∧ w.grownBy w' v.ownBlock ∧ v'.ownBlock = v.ownBlock := by
  have HI := Aside0.mk (nIndex v bx c l B w h hl hb)
  obtain ⟨A, cap, rfl⟩ := own_form h
  have HR := Aside0.mk h
  have HB := Aside0.mk hb
  have HV := Aside0.mk hv
  have HS := Aside0.mk (fun x W hW => nSame bx c x W hW)
  clear h hb hv
  go_enter Tryd.func41, Tryd.ntmps41
  go_wp2_with (fail)
  refine HI.out.mono ?_
  rintro e w5 ⟨⟨rfl, hn⟩ | ⟨k, hk, rfl, hsec, hn⟩, hb5⟩
  · go_wp2
    go_ret
    have e1 : (l.filter fun x => x.sector != c.sector) = l := by
      have := filt_first c.sector l l.length (Nat.le_refl _) hn
      rwa [List.take_length] at this
    exact ⟨_, rfl, by rw [e1]; exact pw_own_below HR.out hb5, gr_belowc hb5, rfl⟩
  · obtain ⟨g, c', cur, e, hBg, _, hnc, hcm, _⟩ := row4_open HR.out (by omega)
    cases e
    have p1 : ((k : Int) == -1) = false := by rw [beq_eq_false_iff_ne]; omega
    have hw1 : wrap64 ((k : Int) + 1) = ((k + 1 : Nat) : Int) := by unfold wrap64; omega
    have hne : bx ≠ g := fun e => HV.out (by rw [e]; rfl)
    have hR5 := pw_own_below HR.out hb5
    have hG5 : w.grownBy w5 (some g) := gr_belowc hb5
    go_upto_region 5 with (fail)
    go_loopw [5, 6] (fun vi vj wr => ∃ (i j : Nat) (m : List NC), vi = .int .i64 i ∧ vj = .int .i64 j ∧ i < j ∧ j ≤ l.length ∧ m.length = l.length ∧ m.take i = (l.take j).filter (fun x => x.sector != c.sector) ∧ (∀ t, j ≤ t → m[t]? = l[t]?) ∧ wr.ownsRow B 38 4 (.slice (some ⟨g, 0, none⟩) l.length cap) l.length (flatN m) ∧ w.grownBy wr (some g)) (fun _ vj _ => l.length - (intOf vj).toNat)
    case atStart =>
      have hx : l[k]? = some (l.getD k zeroN) := by simp [hk]
      exact ⟨k, k + 1, l, rfl, by simp, Nat.lt_succ_self k, hk, rfl, by rw [filt_succ _ _ _ _ hx, filt_first _ _ _ (Nat.le_of_lt hk) hn, if_pos (beq_iff_eq.2 hsec), List.append_nil], fun _ _ => rfl, hR5, hG5⟩
    case round =>
      obtain ⟨i, j, m, rfl, rfl, hij, hjn, hml, htk, hrest, hrow, hg⟩ := hrel
      clear hR5 hG5 hw1 p1 hn hsec HI
      by_cases hlt : j < l.length
      · have hxl : l[j]? = some (l.getD j zeroN) := by simp [hlt]
        obtain ⟨x, hx⟩ : ∃ x, x = l.getD j zeroN := ⟨_, rfl⟩
        rw [← hx] at hxl
        clear hx
        have hxm : m[j]? = some x := (hrest j (Nat.le_refl j)).trans hxl
        have hs := filt_succ c.sector l j x hxl
        obtain ⟨y, hy⟩ : ∃ y, m[i]? = some y := ⟨m[i]'(by omega), List.getElem?_eq_getElem _⟩
        obtain ⟨x0, x1, x2, x3⟩ := row4_cell hrow j x hxm
        have hbr : wr.heap[bx]? = some (.cells #[.int .i64 c.kind, .int .i64 c.sector, .string c.data, .int .i64 c.tag] 38 (0, 0)) := (hg.block bx (Array.getElem?_eq_some_iff.1 HB.out).1 (fun e => hne (Option.some.inj e))).trans HB.out
        have hp1 : decide ((j : Int) < (l.length : Int)) = true := decide_eq_true (by omega)
        have hw2 := wr_succ j (Nat.lt_trans hlt hl)
        have hw3 := wr_succ i (Nat.lt_trans (Nat.lt_of_lt_of_le hij hjn) hl)
        have hil : i < l.length := Nat.lt_of_lt_of_le hij hjn
        obtain ⟨q, hq⟩ : ∃ q, (x.sector == c.sector) = q := ⟨_, rfl⟩
        have HSx := Aside0.mk (HS.out x (wr.alloc (.cells #[.int .i64 x.kind, .int .i64 x.sector, .string x.data, .int .i64 x.tag] 38)) (blk_alloc hbr _))
        rw [hq] at HSx
        rw [hq] at hs
        have HROW := Aside0.mk hrow
        have HG := Aside0.mk hg
        have HX := Aside0.mk hs
        have HY := Aside0.mk hy
        have HZ := Aside0.mk (And.intro hxm (And.intro htk hrest))
        have HK := Aside0.mk (And.intro hij (And.intro hjn (And.intro hml hlt)))
        clear HS hrow hg hbr hxm hxl hs htk hrest hy hcm hnc hBg hne hk hij hjn hml
        have HW := Aside0.mk (fun (W : World) (hb : Below (wr.alloc (.cells #[.int .i64 x.kind, .int .i64 x.sector, .string x.data, .int .i64 x.tag] 38)).heap.size (wr.alloc (.cells #[.int .i64 x.kind, .int .i64 x.sector, .string x.data, .int .i64 x.tag] 38)) W) => And.intro (pw_own_below (HROW.out.alloc (.cells #[.int .i64 x.kind, .int .i64 x.sector, .string x.data, .int .i64 x.tag] 38)) hb) (And.intro (gr_transc HG.out (gr_transc (gr_belowc (below_alloc (Below.refl _ wr) (.cells #[.int .i64 x.kind, .int .i64 x.sector, .string x.data, .int .i64 x.tag] 38))) (gr_belowc (r := some g) hb))) (blk_below (heap_alloc_new wr (.cells #[.int .i64 x.kind, .int .i64 x.sector, .string x.data, .int .i64 x.tag] 38)) hb)))
        cases q with
        | true =>
          go_wp2_with (first | (go_at_call 42; (with_reducible refine HSx.out.mono ?_); rintro e w6 ⟨rfl, hb6⟩) | fail)
          go_roundw
          case rel =>
            obtain ⟨r1, r2, r3⟩ := HW.out _ hb6
            obtain ⟨z1, z2, z3⟩ := HZ.out
            obtain ⟨hij, hjn, hml, _⟩ := HK.out
            refine ⟨i, j + 1, m, rfl, by simp, by omega, by omega, hml, ?_, fun t ht => z3 t (by omega), r1, r2⟩
            have := HX.out
            simp only [if_true, List.append_nil] at this
            rw [this, z2]
          case measure => simp only [intOf]; omega
        | false =>
          go_wp2_with (first | (go_at_call 42; (with_reducible refine HSx.out.mono ?_); rintro e w6 ⟨rfl, hb6⟩; have HW6 := Aside0.mk (HW.out _ hb6); have y0 := (blk_cell HW6.out.2.2 0).trans rfl; have y1 := (blk_cell HW6.out.2.2 1).trans rfl; have y2 := (blk_cell HW6.out.2.2 2).trans rfl; have y3 := (blk_cell HW6.out.2.2 3).trans rfl; have v0 := (row4_cell HW6.out.1 i y HY.out).1; have v1 := (row4_cell HW6.out.1 i y HY.out).2.1; have v2 := (row4_cell HW6.out.1 i y HY.out).2.2.1; have v3 := (row4_cell HW6.out.1 i y HY.out).2.2.2; have f0 := row4_frozen HW6.out.1 (i * 4); have f1 := row4_frozen HW6.out.1 (i * 4 + 1); have f2 := row4_frozen HW6.out.1 (i * 4 + 2); have f3 := row4_frozen HW6.out.1 (i * 4 + 3)) | fail)
          go_roundw
          case rel =>
            obtain ⟨r1, r2, r3⟩ := HW6.out
            obtain ⟨z1, z2, z3⟩ := HZ.out
            obtain ⟨hij, hjn, hml, _⟩ := HK.out
            refine ⟨i + 1, j + 1, m.set i x, by simp, by simp, by omega, by omega, by simpa using hml, ?_, fun t ht => by rw [List.getElem?_set_ne (by omega)]; exact z3 t (by omega), row4_set r1 hml i hil x, gr_put (gr_put (gr_put (gr_put r2 _ _) _ _) _ _) _ _⟩
            have := HX.out
            simp only [Bool.false_eq_true, if_false] at this
            rw [this, ← z2, List.set_eq_take_append_cons_drop, if_pos (by omega), List.take_append, List.length_take, Nat.min_eq_left (by omega), show i + 1 - i = 1 by omega, List.take_of_length_le (by rw [List.length_take]; omega)]
            rfl
          case measure => simp only [intOf]; omega
      · obtain rfl : j = l.length := by omega
        rw [List.take_length] at htk
        have hik : (l.filter fun x => x.sector != c.sector).length = i := by rw [← htk, List.length_take]; omega
        have hci : ¬ cap = i := by omega
        have hic : i ≤ cap := by omega
        have hil : i ≤ l.length := by omega
        obtain ⟨wc, hcl, ho, hgc⟩ := run_clear4 (k := l.length - i) (c' := cap - i) (row4_take hrow i hil) (by omega) (by omega) 0
        have HO := Aside0.mk ho
        have HG := Aside0.mk (gr_transc hg hgc)
        rw [htk] at HO
        clear hrow hrest hgc ho htk hnc hcm
        go_wp2
        go_ret
        rw [hik]
        exact ⟨_, rfl, HO.out, HG.out, rfl⟩


end Go.Proofs.YtofiedgnnpednaaDoor.VNvmeRefuses
