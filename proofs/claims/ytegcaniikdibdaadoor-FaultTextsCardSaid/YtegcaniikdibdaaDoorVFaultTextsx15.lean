/- Contracts of functions of this seat: each call comes to what its Lean function computes; no condition beyond what each theorem states. Printed by a program of this session's own laid over the kit's printer. -/
import Derived.Test.YtegcaniikdibdaaDoorVFaultTextsx0
import Derived.Test.YtegcaniikdibdaaDoorVFaultTextsx1
import Derived.Test.YtegcaniikdibdaaDoorVFaultTextsx13
import Derived.Test.YtegcaniikdibdaaDoorVFaultTextsx14
namespace Go.Proofs.YtegcaniikdibdaaDoor.VFaultTexts
open Go.RowKit Go.Proofs.YtegcaniikdibdaaDoorW.PrintWords Go.Proofs.YtegcaniikdibdaaDoorW.PrintLast Go.Proofs.YtegcaniikdibdaaDoorW.PrintMore
attribute [local go_sem] max2_int min2_int max_two min_two max_three min_three max_four min_four   -- for this text's walks alone
set_option linter.unusedVariables false
set_option linter.unusedSimpArgs false

-- @GIVEN posthorselaw02_made
/-! ### posthorselaw02_made: by hand -/
abbrev StepS := S24
def cutO (s : ByteArray) : ByteArray := s.extract 0 (min s.size 20)
def nM (a : Int) : Int := wrap64 (1 + (wrap64 (a.tmod 19 + 19)).tmod 19)
def stepE (e : Er) (s : StepS) : Er := if s.f3 = true then .many e [nM s.f2] else .wrap (cutO s.f0) s.f1 e
def madeE (n : Int) (l : List StepS) : Er := (l.take 10).foldl stepE (.num (nM n))
theorem nM_lim (a : Int) : 1 ≤ nM a ∧ nM a ≤ 19 := by
  have h2 := Int.tmod_lt_of_pos a (show (0 : Int) < 19 by decide)
  have h3 := Int.lt_tmod_of_pos a (show (0 : Int) < 19 by decide)
  have h4 : wrap64 (a.tmod 19 + 19) = a.tmod 19 + 19 := by unfold wrap64; omega
  have h5 := Int.tmod_nonneg 19 (show (0 : Int) ≤ a.tmod 19 + 19 by omega)
  have h6 := Int.tmod_lt_of_pos (a.tmod 19 + 19) (show (0 : Int) < 19 by decide)
  unfold nM
  rw [h4]
  unfold wrap64
  omega
theorem fold_snoc (n : Int) (l : List StepS) (j : Nat) (h : j < l.length) : (l.take (j + 1)).foldl stepE (.num (nM n)) = stepE ((l.take j).foldl stepE (.num (nM n))) (rd_T24 l (j : Int)) := by
  rw [List.take_add_one, List.getElem?_eq_getElem h, List.foldl_append]
  have : rd_T24 l (j : Int) = l[j] := by unfold rd_T24; simp [h]
  rw [this]
  rfl
theorem join4 (t : TypeId) (x : Value) (k : Int) (w : World) : Calls Tryd.prog 20 #[.slice (some ⟨w.heap.size, 0, none⟩) 4 4] (w.alloc (.cells #[.nilIface, .iface t x, .iface 36 (.int .i64 k), .nilIface] 27)) fun r w' => ∃ sv, r = .returned (.iface 52 sv) ∧ w'.ownsRow 0 27 1 sv 2 [.iface t x, eNum k] ∧ Below w.heap.size w w' := by
  have hb := below_alloc (Below.refl w.heap.size w) (.cells #[.nilIface, .iface t x, .iface 36 (.int .i64 k), .nilIface] 27)
  have h1 := eJoin w.heap.size 4 [.nilIface, .iface t x, eNum k, .nilIface] (w.alloc (.cells #[.nilIface, .iface t x, .iface 36 (.int .i64 k), .nilIface] 27)) (fun j u hj => by rw [blk_cell (blk_new w _) j]; simpa [eNum] using hj) (fun u hu => by
    simp only [List.mem_cons, List.not_mem_nil, or_false] at hu
    rcases hu with rfl | rfl | rfl | rfl
    · exact .inl rfl
    · exact .inr ⟨_, _, rfl⟩
    · exact .inr ⟨_, _, rfl⟩
    · exact .inl rfl) (by simp)
  refine h1.mono ?_
  rintro r w' ⟨hb2, h | h | h⟩
  · exact absurd h.1 (by simp [thereE, isNil, eNum])
  · obtain ⟨u, hu, _⟩ := h; exact absurd hu (by simp [thereE, isNil, eNum])
  · obtain ⟨_, sv, hr, ho⟩ := h
    refine ⟨sv, hr, ?_, below_step hb hb2⟩
    have h3 : thereE [.nilIface, .iface t x, eNum k, .nilIface] = [.iface t x, eNum k] := by simp [thereE, isNil, eNum]
    rw [h3] at ho
    refine ⟨ho.1, ?_⟩
    rcases ho.2 with h0 | ⟨g, c, cur, h0, _, h2⟩
    · exact .inl h0
    · exact .inr ⟨g, c, cur, h0, Nat.zero_le _, h2⟩
def fm.T11 : Bool × List (List Nat × List Nat) := (true, [([], []), ([], []), ([0, 1], [0, 1]), ([2], [2]), ([3], [3]), ([], []), ([], []), ([5, 6], [5, 6]), ([7], [7]), ([8], [8]), ([9], [9]), ([10], [10]), ([4, 11], [4, 11]), ([12, 0, 1, 2, 3, 4, 5, 6, 7, 8, 9, 10, 11, 12], [12])])
def fm.B11 : List Nat := [0, 0, 3, 7, 15, 0, 0, 96, 224, 480, 992, 2016, 4095, 8191]
theorem fm.tab11 : rtab .any (opsOf Tryd.f11 11) = fm.T11 := by kernel_rfl
theorem fm.bits11 : waitsOk fm.T11.2 fm.B11 = true := by kernel_rfl
def fm.T13 : Bool × List (List Nat × List Nat) := (true, [([], []), ([], []), ([], []), ([1, 2], [1, 2]), ([3], [3]), ([4], [4]), ([], []), ([6], [6]), ([0, 5, 7], [0, 5, 7]), ([8, 0, 1, 2, 3, 4, 5, 6, 7, 8], [8])])
def fm.B13 : List Nat := [0, 0, 0, 6, 14, 30, 0, 64, 255, 511]
theorem fm.tab13 : rtab .any (opsOf Tryd.f11 13) = fm.T13 := by kernel_rfl
theorem fm.bits13 : waitsOk fm.T13.2 fm.B13 = true := by kernel_rfl
def fm.T14 : Bool × List (List Nat × List Nat) := (true, [([], []), ([], []), ([0, 0], [0]), ([1, 2, 0, 1, 2], [1])])
def fm.B14 : List Nat := [0, 0, 1, 7]
theorem fm.tab14 : rtab .any (opsOf Tryd.f11 14) = fm.T14 := by kernel_rfl
theorem fm.bits14 : waitsOk fm.T14.2 fm.B14 = true := by kernel_rfl
set_option maxHeartbeats 8000000 in
set_option maxRecDepth 100000 in
/-- An error of any steps, and the document's node of it. -/
theorem made_calls (n0 : Int) (l : List StepS) (A : Option Addr) (c : Nat) (w : World) (hr : Kd.C k24 w A l.length l) :
    Calls Tryd.prog 11 #[.int .i64 n0, .slice A l.length c] w fun r w' => ∃ (v : Value) (k a n : Int) (op : ByteArray) (sl : Value), r = .returned (.tuple #[v, .agg #[.int .i64 k, .int .i64 a, .int .i64 n, .string op, sl]]) ∧ ErV w' v (madeE n0 l) ∧ NodeV w' w.heap.size k a n op sl (madeE n0 l) ∧ Below w.heap.size w w' := by
  have HR := Aside0.mk hr
  clear hr
  have hn : wrap64 (1 + (wrap64 (n0.tmod 19 + 19)).tmod 19) = nM n0 := rfl
  have HE0 := Aside0.mk (show Er.num (nM n0) = (l.take 0).foldl stepE (.num (nM n0)) from rfl)
  go_enter Tryd.func11, Tryd.ntmps11
  go_upto_region 4 with (first
    | ((with_reducible refine gate_dst (N := 5) rfl ?_); refine box_event ?hg (N := 5) ?hd (cs := #[.int .i64 0, .int .i64 0, .int .i64 0, .string ⟨#[]⟩, .slice none 0 0]) (t := 30) ?hr ?_; (case hd => rfl); (case hg => rfl); (case hr => first | (go_simp; done) | (go_simp; rfl)); intro g5 hg5 w5 hbox hb; have HG5 := Aside0.mk hg5; have HZ5 := Aside0.mk hbox; have HB5 := Aside0.mk hb; clear hg5 hbox hb)
    | ((with_reducible refine gate_dst (N := 7) rfl ?_); refine box_event ?hg (N := 7) ?hd (cs := #[.int .i64 0, .int .i64 0, .int .i64 0, .string ⟨#[]⟩, .slice none 0 0]) (t := 30) ?hr ?_; (case hd => rfl); (case hg => rfl); (case hr => first | (go_simp; done) | (go_simp; rfl)); intro g7 hg7 w7 hbox hb; have HG7 := Aside0.mk (show w.heap.size ≤ g5 ∧ g5 < g7 from ⟨by rw [HG5.out]; exact Nat.le_refl _, by rw [hg7]; exact blk_lt HZ5.out⟩); have HZ7 := Aside0.mk hbox; have HB7 := Aside0.mk (below_step HB5.out hb); have HZ57 := Aside0.mk (blk_below HZ5.out hb); have hq0 := (blk_cell hbox 0).trans rfl; have hq1 := (blk_cell hbox 1).trans rfl; have hq2 := (blk_cell hbox 2).trans rfl; have hq3 := (blk_cell hbox 3).trans rfl; have hq4 := (blk_cell hbox 4).trans rfl; have hf0 := blk_frozen hbox 0; have hf1 := blk_frozen hbox 1; have hf2 := blk_frozen hbox 2; have hf3 := blk_frozen hbox 3; have hf4 := blk_frozen hbox 4; clear hg7 hbox hb HZ5)
    | ((with_reducible refine gate_store (t := 30) (p := 7) rfl ?_); refine store_event (t := 30) (p := 7) (v := ?vo_) (w1 := put5 w7 g7 (.int .i64 3) (.int .i64 0) (.int .i64 (nM n0)) (.string ⟨#[]⟩) (.slice none 0 0)) ?hg ?ho ?hn ?hr ?_; (case ho => rfl); (case hg => rfl); (case hn => rfl); (case hr => unfold put5; first | (go_simp; done) | (go_simp; rfl)); intro w8 hw; have HG8 := Aside0.mk (show w7.grownBy w8 (some g7) by rw [hw]; exact put5_gr _ _ _ _ _ _ _); have HZ8 := Aside0.mk (show w8.heap[g7]? = some (.cells #[.int .i64 3, .int .i64 0, .int .i64 (nM n0), .string ⟨#[]⟩, .slice none 0 0] 30 (0, 0)) by rw [hw]; exact put5_blk HZ7.out); clear hw hq0 hq1 hq2 hq3 hq4 hf0 hf1 hf2 hf3 hf4))
  have HB8 := Aside0.mk (HB7.out.grown HG8.out HB7.out.size (fun k_ hk_ => by have h1 := HG7.out; have h2 : k_ = g7 := (by simpa using hk_.symm); omega))
  have HY8 := Aside0.mk ((HG8.out.block g5 (blk_lt HZ57.out) (fun e_ => by have h1 := HG7.out; have h2 : g5 = g7 := Option.some.inj e_; omega)).trans HZ57.out)
  clear HB5 HB7 HZ57 HZ7 HG8
  go_wp2
  go_loopg [6, 8] (l.length + 1) (fun kq v6 v8 w' => ∃ (j : Nat) (e : Er) (v : Value) (k ta n : Int) (op : ByteArray) (sl : Value), v6 = v ∧ v8 = .int .i64 (j : Int) ∧ Aside0 (kq = l.length + 1 - j ∧ j ≤ l.length ∧ j ≤ 10) ∧ Aside0 (e = (l.take j).foldl stepE (.num (nM n0))) ∧ Aside0 (ErV w' v e) ∧ Aside0 (w'.heap[g7]? = some (.cells #[.int .i64 k, .int .i64 ta, .int .i64 n, .string op, sl] 30 (0, 0))) ∧ Aside0 (NodeV w' (g7 + 1) k ta n op sl e) ∧ Aside0 (w'.heap[g5]? = some (.cells #[.int .i64 0, .int .i64 0, .int .i64 0, .string ⟨#[]⟩, .slice none 0 0] 30 (0, 0))) ∧ Aside0 (Below w.heap.size w w'))
  case atStart => exact ⟨0, _, _, 3, 0, nM n0, ⟨#[]⟩, .slice none 0 0, rfl, rfl, ⟨by omega, by omega, by omega⟩, ⟨rfl⟩, ⟨rfl⟩, HZ8, ⟨NodeV.num _ _ _⟩, HY8, HB8⟩
  case round =>
    clear HZ8 HY8 HB8
    obtain ⟨j, e, v, k, ta, n, op, sl, hs6, hs8, HJ, HE, HV, HX, HN, HY, HB⟩ := hrel
    subst hs6 hs8
    obtain ⟨sA, sn, sc, rfl⟩ := HN.out.slice
    have hkj := HJ.out
    by_cases hlt : j < l.length ∧ j < 10
    · obtain ⟨hlt, hl10⟩ := hlt
      have d1 : decide ((j : Int) < (l.length : Int)) = true := decide_eq_true (by omega)
      have d2 : decide ((j : Int) < 10) = true := decide_eq_true (by omega)
      have d3 : decide (j < l.length) = true := decide_eq_true hlt
      have d4 : decide (j < 10) = true := decide_eq_true hl10
      have p0 := eq_true (show (0 : Int) ≤ (j : Int) by omega)
      have p1 := eq_true (show (j : Int) < (l.length : Int) by omega)
      have p2 := eq_true hlt
      have HI1 := Aside0.mk (show wrap64 ((j : Int) + 1) = ((j + 1 : Nat) : Int) by unfold wrap64; omega)
      have HJ1 := Aside0.mk (show j + 1 ≤ l.length ∧ j + 1 ≤ 10 by omega)
      obtain ⟨ad, rfl, hx0, hx1, hx2, hx3⟩ := at_T24 (Kd.C_below HR.out HB.out) (j : Int) (by omega) (by omega)
      rw [show ((j : Int)).toNat = j from rfl] at hx0 hx1 hx2 hx3
      have HS := Aside0.mk (fold_snoc n0 l j hlt)
      rw [← HE.out] at HS
      generalize rd_T24 l (j : Int) = s at hx0 hx1 hx2 hx3 HS
      clear hkj HE
      obtain ⟨vt, vx, rfl⟩ := HV.out.iface
      cases hf : s.f3 with
      | true =>
        have hk : wrap64 (1 + (wrap64 (s.f2.tmod 19 + 19)).tmod 19) = nM s.f2 := rfl
        have HST := Aside0.mk (show stepE e s = .many e [nM s.f2] by unfold stepE; rw [if_pos hf])
        rw [hf] at hx3
        generalize nM s.f2 = m at hk HST
        go_wp2_with (first
          | (go_at_call 20; refine (join4 vt vx m _).mono ?_; rintro r w5 ⟨sv, rfl, ho, hb⟩; have HO5 := Aside0.mk ho; have HX5 := Aside0.mk (blk_below HX.out hb); have HY5 := Aside0.mk (blk_below HY.out hb); have HN5 := Aside0.mk (HN.out.below hb); have HV5 := Aside0.mk (HV.out.below hb); have HB5 := Aside0.mk (below_step HB.out hb); have hq0 := (blk_cell HX5.out 0).trans rfl; have hq1 := (blk_cell HX5.out 1).trans rfl; have hq2 := (blk_cell HX5.out 2).trans rfl; have hq3 := (blk_cell HX5.out 3).trans rfl; have hq4 := (blk_cell HX5.out 4).trans rfl; have hf0 := blk_frozen HX5.out 0; have hf1 := blk_frozen HX5.out 1; have hf2 := blk_frozen HX5.out 2; have hf3 := blk_frozen HX5.out 3; have hf4 := blk_frozen HX5.out 4; clear ho hb)
          | ((with_reducible refine gate_dst (N := 52) rfl ?_); refine lit_event ?hg (N := 52) ?hd (cs := #[.int .i64 k, .int .i64 ta, .int .i64 n, .string op, .slice sA sn sc, .int .i64 3, .int .i64 0, .int .i64 m, .string ⟨#[]⟩, .slice none 0 0]) (t := 30) (m := 2) ?hr ?_; (case hd => rfl); (case hg => rfl); (case hr => first | (go_simp; done) | (go_simp; rfl)); intro gk hgk w6 hbox hb; have HGK := Aside0.mk (show g7 + 1 ≤ gk by rw [hgk]; exact blk_lt HX5.out); have HK6 := Aside0.mk hbox; have HO6 := Aside0.mk (pw_own_below HO5.out hb); have HX6 := Aside0.mk (blk_below HX5.out hb); have HY6 := Aside0.mk (blk_below HY5.out hb); have HN6 := Aside0.mk (HN5.out.below hb); have HV6 := Aside0.mk (HV5.out.below hb); have HB6 := Aside0.mk (below_step HB5.out hb); clear hq0 hq1 hq2 hq3 hq4 hf0 hf1 hf2 hf3 hf4 hgk hbox hb; have hq0 := (blk_cell HX6.out 0).trans rfl; have hq1 := (blk_cell HX6.out 1).trans rfl; have hq2 := (blk_cell HX6.out 2).trans rfl; have hq3 := (blk_cell HX6.out 3).trans rfl; have hq4 := (blk_cell HX6.out 4).trans rfl; have hf0 := blk_frozen HX6.out 0; have hf1 := blk_frozen HX6.out 1; have hf2 := blk_frozen HX6.out 2; have hf3 := blk_frozen HX6.out 3; have hf4 := blk_frozen HX6.out 4))
        have HG8 := Aside0.mk (put5_gr w6 g7 (.int .i64 2) (.int .i64 0) (.int .i64 0) (.string ⟨#[]⟩) (.slice (some ⟨gk, 0, none⟩) 2 2))
        have HX8 := Aside0.mk (put5_blk (a' := .int .i64 2) (b' := .int .i64 0) (c' := .int .i64 0) (d' := .string ⟨#[]⟩) (e' := .slice (some ⟨gk, 0, none⟩) 2 2) HX6.out)
        have HY8 := Aside0.mk ((HG8.out.block g5 (blk_lt HY6.out) (fun e_ => by have h1 := HG7.out; have h2 : g5 = g7 := Option.some.inj e_; omega)).trans HY6.out)
        have HB8 := Aside0.mk (HB6.out.grown HG8.out HB6.out.size (fun k_ hk_ => by have h1 := HG7.out; have h2 : k_ = g7 := (by simpa using hk_.symm); omega))
        have HV8 := Aside0.mk (ErV.over HG8.out HX6.out (by decide) (by decide) (e := .many e [m]) (v := .iface 52 sv) ⟨sv, _, rfl, HO6.out, by simp, HV6.out⟩)
        have HN8 := Aside0.mk (NodeV.over HG8.out (Nat.lt_succ_self _) (NodeV.mkM HK6.out HGK.out HN6.out))
        go_roundg (l.length + 1 - (j + 1))
        case measure => have h1_ := HJ1.out; have h2_ := HJ.out; omega
        case rel => exact ⟨j + 1, .many e [m], _, _, _, _, _, _, rfl, by first | rfl | (rw [HI1.out]), ⟨rfl, HJ1.out.1, HJ1.out.2⟩, ⟨by rw [HS.out, HST.out]⟩, HV8, HX8, HN8, HY8, HB8⟩
      | false =>
        have HST := Aside0.mk (show stepE e s = .wrap (cutO s.f0) s.f1 e by unfold stepE; rw [if_neg (by rw [hf]; decide)])
        rw [hf] at hx3
        generalize s.f0 = x at hx0 HST
        generalize s.f1 = p at hx1 HST
        obtain ⟨nn, hnn⟩ : ∃ nn, min x.size 20 = nn := ⟨_, rfl⟩
        have hmn : (if (20 : Int) < (x.size : Int) then (20 : Int) else (x.size : Int)) = (nn : Int) := by split <;> omega
        have hm1 : decide ((0 : Int) ≤ (nn : Int)) = true := decide_eq_true (by omega)
        have hm2 : decide ((nn : Int) ≤ (x.size : Int)) = true := decide_eq_true (by omega)
        have hm3 : decide (nn ≤ x.size) = true := decide_eq_true (by omega)
        have hm4 := eq_true (show (nn : Int) ≤ (x.size : Int) by omega)
        have hm5 := eq_true (show nn ≤ x.size by omega)
        rw [show cutO x = x.extract 0 nn by unfold cutO; rw [hnn]] at HST
        have HM := Aside0.mk (And.intro hmn (And.intro hm1 (And.intro hm2 (And.intro hm3 (And.intro hm4 hm5)))))
        have HX0 := Aside0.mk hx0
        have HX1 := Aside0.mk hx1
        clear hnn hx0 hx1
        go_upto_region 11 with (fail)
        refine start_ (n := 14) (S := fun w' => True) (ds := []) #[false, false, false, false, false, false, false, false, false, false, false, false, false, false] (by kernel_rfl) rfl rfl trivial (fun hHeld => ?_)
        refine with_tabW fm.tab11 fm.bits11 (fun HT_ HW_ => ?_)
        have n0_ := Aside0.mk (pw_cell_below (Below.refl _ _).drew HX0.out); have n1_ := Aside0.mk (pw_cell_below (Below.refl _ _).drew HX1.out); have n2_ := Aside0.mk (blk_drew HX.out); have n3_ := Aside0.mk (blk_drew HY.out); have n4_ := Aside0.mk (HN.out.below (Below.refl _ _).drew); have n5_ := Aside0.mk (HV.out.below (Below.refl _ _).drew); have n6_ := Aside0.mk HB.out.drew; clear HX0 HX1 HX HY HN HV HB; have HX0 := n0_; have HX1 := n1_; have HX := n2_; have HY := n3_; have HN := n4_; have HV := n5_; have HB := n6_; clear n0_ n1_ n2_ n3_ n4_ n5_ n6_; generalize wr.drew = wd at HX0 HX1 HX HY HN HV HB ⊢
        refine pure_ (i := 0) (N := some 54) (v := ?_) (a' := ?_) #[true, false, false, false, false, false, false, false, false, false, false, false, false, false] rfl rfl (any_of HT_.out (by kernel_rfl)) (fun _ _ _ h => h) (Or.inl ⟨by rfl, ?_⟩) ?_ ?_
        rotate_left
        · intro w'
          go_simp
          with_reducible rfl
        rotate_left
        · simp only [Act.put, List.setIfInBounds_toArray, List.set_cons_zero, List.set_cons_succ, i64_w, i32_w]
          rfl
        refine pure_ (i := 1) (N := some 55) (v := ?_) (a' := ?_) #[true, true, false, false, false, false, false, false, false, false, false, false, false, false] rfl rfl (any_of HT_.out (by kernel_rfl)) (fun _ _ _ h => h) (Or.inl ⟨by rfl, ?_⟩) ?_ ?_
        rotate_left
        · intro w'
          go_simp
          with_reducible rfl
        rotate_left
        · simp only [Act.put, List.setIfInBounds_toArray, List.set_cons_zero, List.set_cons_succ, i64_w, i32_w]
          rfl
        refine pure_ (i := 2) (N := some 56) (v := ?_) (a' := ?_) #[true, true, true, false, false, false, false, false, false, false, false, false, false, false] rfl rfl (any_of HT_.out (by kernel_rfl)) (fun _ _ _ h => h) (Or.inl ⟨by rfl, ?_⟩) ?_ ?_
        rotate_left
        · intro w'
          go_simp
          with_reducible rfl
        rotate_left
        · simp only [Act.put, List.setIfInBounds_toArray, List.set_cons_zero, List.set_cons_succ, i64_w, i32_w]
          rfl
        refine pure_ (i := 3) (N := some 57) (v := ?_) (a' := ?_) #[true, true, true, true, false, false, false, false, false, false, false, false, false, false] rfl rfl (any_of HT_.out (by kernel_rfl)) (fun _ _ _ h => h) (Or.inl ⟨by rfl, ?_⟩) ?_ ?_
        rotate_left
        · intro w'
          go_simp
          with_reducible rfl
        rotate_left
        · simp only [Act.put, List.setIfInBounds_toArray, List.set_cons_zero, List.set_cons_succ, i64_w, i32_w]
          rfl
        refine pure_ (i := 5) (N := some 59) (v := ?_) (a' := ?_) #[true, true, true, true, false, true, false, false, false, false, false, false, false, false] rfl rfl (any_of HT_.out (by kernel_rfl)) (fun _ _ _ h => h) (Or.inl ⟨by rfl, ?_⟩) ?_ ?_
        rotate_left
        · intro w'
          go_simp
          with_reducible rfl
        rotate_left
        · simp only [Act.put, List.setIfInBounds_toArray, List.set_cons_zero, List.set_cons_succ, i64_w, i32_w]
          rfl
        refine pure_ (i := 6) (N := some 60) (v := ?_) (a' := ?_) #[true, true, true, true, false, true, true, false, false, false, false, false, false, false] rfl rfl (any_of HT_.out (by kernel_rfl)) (fun _ _ _ h => h) (Or.inl ⟨by rfl, ?_⟩) ?_ ?_
        rotate_left
        · intro w'
          go_simp
          with_reducible rfl
        rotate_left
        · simp only [Act.put, List.setIfInBounds_toArray, List.set_cons_zero, List.set_cons_succ, i64_w, i32_w]
          rfl
        refine pure_ (i := 7) (N := some 61) (v := ?_) (a' := ?_) #[true, true, true, true, false, true, true, true, false, false, false, false, false, false] rfl rfl (any_of HT_.out (by kernel_rfl)) (fun _ _ _ h => h) (Or.inl ⟨by rfl, ?_⟩) ?_ ?_
        rotate_left
        · intro w'
          go_simp
          with_reducible rfl
        rotate_left
        · simp only [Act.put, List.setIfInBounds_toArray, List.set_cons_zero, List.set_cons_succ, i64_w, i32_w]
          rfl
        refine pure_ (i := 8) (N := some 62) (v := ?_) (a' := ?_) #[true, true, true, true, false, true, true, true, true, false, false, false, false, false] rfl rfl (any_of HT_.out (by kernel_rfl)) (fun _ _ _ h => h) (Or.inl ⟨by rfl, ?_⟩) ?_ ?_
        rotate_left
        · intro w'
          go_simp
          with_reducible rfl
        rotate_left
        · simp only [Act.put, List.setIfInBounds_toArray, List.set_cons_zero, List.set_cons_succ, i64_w, i32_w]
          rfl
        refine inv_at [4, 9, 10, 11, 12, 13] (fun a0_ b a w' => a = putSel a0_ b [(4, 58, .string x), (9, 63, .string x), (10, 64, .int .i64 (x.size : Int)), (11, 65, .int .i64 (nn : Int)), (12, 66, .string (x.extract 0 nn)), (13, 10, .string (x.extract 0 nn))] ∧ (w'.cell? (ad.add (j * 4)) = some (.string x)) ∧ (w'.cell? ⟨(ad.add (j * 4)).block, (ad.add (j * 4)).off + 1, none⟩ = some (.int .i64 p)) ∧ (w'.heap[g7]? = some (.cells #[.int .i64 k, .int .i64 ta, .int .i64 n, .string op, .slice sA sn sc] 30 (0, 0))) ∧ (w'.heap[g5]? = some (.cells #[.int .i64 0, .int .i64 0, .int .i64 0, .string ⟨#[]⟩, .slice none 0 0] 30 (0, 0))) ∧ (NodeV w' (g7 + 1) k ta n op (.slice sA sn sc) e) ∧ (ErV w' (.iface vt vx) e) ∧ (Below w.heap.size w w')) HT_.out HW_.out (by kernel_rfl) (by kernel_rfl) ?_ ?_ ?_
        · exact ⟨by simp only [putSel, Bool.false_eq_true, if_false], HX0.out, HX1.out, HX.out, HY.out, HN.out, HV.out, HB.out⟩
        · skip
          clear HB HN HV HX HX0 HX1 HY
          refine steps_cons ?_ ?_
          · rintro b a w' ⟨ha, Q_HX0, Q_HX1, Q_HX, Q_HY, Q_HN, Q_HV, Q_HB⟩ hb_ hon hoff
            refine ⟨_, rfl, fun K hK => ?_⟩
            have e57 : a.tmps[57]? = some (.pointer (some (ad.add (j * 4)))) := by rw [ha]; exact (putSel_off rfl).trans rfl
            replace ha := Aside0.mk ha
            have HX0 := Aside0.mk Q_HX0
            have HX1 := Aside0.mk Q_HX1
            have HX := Aside0.mk Q_HX
            have HY := Aside0.mk Q_HY
            have HN := Aside0.mk Q_HN
            have HV := Aside0.mk Q_HV
            have HB := Aside0.mk Q_HB
            have hx_ := HX0.out
            refine value_ (w1 := w') (v := .string x) (by rfl) rfl ?_ ?_
            · go_simp
              (try simp only [i64_w])
              try rfl
            refine hK.out _ _ ⟨(by rw [ha.out]; exact putSel_upk 0 hb_ rfl rfl rfl), Q_HX0, Q_HX1, Q_HX, Q_HY, Q_HN, Q_HV, Q_HB⟩
          refine steps_cons ?_ ?_
          · rintro b a w' ⟨ha, Q_HX0, Q_HX1, Q_HX, Q_HY, Q_HN, Q_HV, Q_HB⟩ hb_ hon hoff
            refine ⟨_, rfl, fun K hK => ?_⟩
            have e62 : a.tmps[62]? = some (.pointer (some (ad.add (j * 4)))) := by rw [ha]; exact (putSel_off rfl).trans rfl
            replace ha := Aside0.mk ha
            have HX0 := Aside0.mk Q_HX0
            have HX1 := Aside0.mk Q_HX1
            have HX := Aside0.mk Q_HX
            have HY := Aside0.mk Q_HY
            have HN := Aside0.mk Q_HN
            have HV := Aside0.mk Q_HV
            have HB := Aside0.mk Q_HB
            have hx_ := HX0.out
            refine value_ (w1 := w') (v := .string x) (by rfl) rfl ?_ ?_
            · go_simp
              (try simp only [i64_w])
              try rfl
            refine hK.out _ _ ⟨(by rw [ha.out]; exact putSel_upk 1 hb_ rfl rfl rfl), Q_HX0, Q_HX1, Q_HX, Q_HY, Q_HN, Q_HV, Q_HB⟩
          refine steps_cons ?_ ?_
          · rintro b a w' ⟨ha, Q_HX0, Q_HX1, Q_HX, Q_HY, Q_HN, Q_HV, Q_HB⟩ hb_ hon hoff
            refine ⟨_, rfl, fun K hK => ?_⟩
            have e63 : a.tmps[63]? = some (.string x) := by rw [ha]; exact putSel_on (e := (9, 63, .string x)) 1 rfl rfl (hon 9 (by kernel_rfl)) rfl
            replace ha := Aside0.mk ha
            have HX0 := Aside0.mk Q_HX0
            have HX1 := Aside0.mk Q_HX1
            have HX := Aside0.mk Q_HX
            have HY := Aside0.mk Q_HY
            have HN := Aside0.mk Q_HN
            have HV := Aside0.mk Q_HV
            have HB := Aside0.mk Q_HB
            refine value_ (w1 := w') (v := .int .i64 (x.size : Int)) (by rfl) rfl ?_ ?_
            · go_simp
              (try simp only [i64_w])
              try rfl
            refine hK.out _ _ ⟨(by rw [ha.out]; exact putSel_upk 2 hb_ rfl rfl rfl), Q_HX0, Q_HX1, Q_HX, Q_HY, Q_HN, Q_HV, Q_HB⟩
          refine steps_cons ?_ ?_
          · rintro b a w' ⟨ha, Q_HX0, Q_HX1, Q_HX, Q_HY, Q_HN, Q_HV, Q_HB⟩ hb_ hon hoff
            refine ⟨_, rfl, fun K hK => ?_⟩
            have e64 : a.tmps[64]? = some (.int .i64 (x.size : Int)) := by rw [ha]; exact putSel_on (e := (10, 64, .int .i64 (x.size : Int))) 2 rfl rfl (hon 10 (by kernel_rfl)) rfl
            replace ha := Aside0.mk ha
            have HX0 := Aside0.mk Q_HX0
            have HX1 := Aside0.mk Q_HX1
            have HX := Aside0.mk Q_HX
            have HY := Aside0.mk Q_HY
            have HN := Aside0.mk Q_HN
            have HV := Aside0.mk Q_HV
            have HB := Aside0.mk Q_HB
            refine value_ (w1 := w') (v := .int .i64 (nn : Int)) (by rfl) rfl ?_ ?_
            · go_simp
              (try simp only [i64_w])
              try rfl
            refine hK.out _ _ ⟨(by rw [ha.out]; exact putSel_upk 3 hb_ rfl rfl rfl), Q_HX0, Q_HX1, Q_HX, Q_HY, Q_HN, Q_HV, Q_HB⟩
          refine steps_cons ?_ ?_
          · rintro b a w' ⟨ha, Q_HX0, Q_HX1, Q_HX, Q_HY, Q_HN, Q_HV, Q_HB⟩ hb_ hon hoff
            refine ⟨_, rfl, fun K hK => ?_⟩
            have e58 : a.tmps[58]? = some (.string x) := by rw [ha]; exact putSel_on (e := (4, 58, .string x)) 0 rfl rfl (hon 4 (by kernel_rfl)) rfl
            have e65 : a.tmps[65]? = some (.int .i64 (nn : Int)) := by rw [ha]; exact putSel_on (e := (11, 65, .int .i64 (nn : Int))) 3 rfl rfl (hon 11 (by kernel_rfl)) rfl
            replace ha := Aside0.mk ha
            have HX0 := Aside0.mk Q_HX0
            have HX1 := Aside0.mk Q_HX1
            have HX := Aside0.mk Q_HX
            have HY := Aside0.mk Q_HY
            have HN := Aside0.mk Q_HN
            have HV := Aside0.mk Q_HV
            have HB := Aside0.mk Q_HB
            refine value_ (w1 := w') (v := .string (x.extract 0 nn)) (by rfl) rfl ?_ ?_
            · go_simp
              (try simp only [i64_w])
              try rfl
            refine hK.out _ _ ⟨(by rw [ha.out]; exact putSel_upk 4 hb_ rfl rfl rfl), Q_HX0, Q_HX1, Q_HX, Q_HY, Q_HN, Q_HV, Q_HB⟩
          refine steps_cons ?_ ?_
          · rintro b a w' ⟨ha, Q_HX0, Q_HX1, Q_HX, Q_HY, Q_HN, Q_HV, Q_HB⟩ hb_ hon hoff
            refine ⟨_, rfl, fun K hK => ?_⟩
            have e66 : a.tmps[66]? = some (.string (x.extract 0 nn)) := by rw [ha]; exact putSel_on (e := (12, 66, .string (x.extract 0 nn))) 4 rfl rfl (hon 12 (by kernel_rfl)) rfl
            replace ha := Aside0.mk ha
            have HX0 := Aside0.mk Q_HX0
            have HX1 := Aside0.mk Q_HX1
            have HX := Aside0.mk Q_HX
            have HY := Aside0.mk Q_HY
            have HN := Aside0.mk Q_HN
            have HV := Aside0.mk Q_HV
            have HB := Aside0.mk Q_HB
            refine value_ (w1 := w') (v := .string (x.extract 0 nn)) (by rfl) rfl ?_ ?_
            · go_simp
              (try simp only [i64_w])
              try rfl
            refine hK.out _ _ ⟨(by rw [ha.out]; exact putSel_upk 5 hb_ rfl rfl rfl), Q_HX0, Q_HX1, Q_HX, Q_HY, Q_HN, Q_HV, Q_HB⟩
          exact steps_nil
        rintro b a w3 hall ⟨ha, Q_HX0, Q_HX1, Q_HX, Q_HY, Q_HN, Q_HV, Q_HB⟩
        clear HB HN HV HX HX0 HX1 HY
        have hb4_ := hall 4 (by kernel_rfl)
        have hb9_ := hall 9 (by kernel_rfl)
        have hb10_ := hall 10 (by kernel_rfl)
        have hb11_ := hall 11 (by kernel_rfl)
        have hb12_ := hall 12 (by kernel_rfl)
        have hb13_ := hall 13 (by kernel_rfl)
        subst ha
        simp only [putSel, hb4_, hb9_, hb10_, hb11_, hb12_, hb13_, if_true, Act.put, List.setIfInBounds_toArray, List.set_cons_zero, List.set_cons_succ]
        have HX0 := Aside0.mk Q_HX0
        clear Q_HX0
        have HX1 := Aside0.mk Q_HX1
        clear Q_HX1
        have HX := Aside0.mk Q_HX
        clear Q_HX
        have HY := Aside0.mk Q_HY
        clear Q_HY
        have HN := Aside0.mk Q_HN
        clear Q_HN
        have HV := Aside0.mk Q_HV
        clear Q_HV
        have HB := Aside0.mk Q_HB
        clear Q_HB
        clear hall hb4_ hb9_ hb10_ hb11_ hb12_ hb13_
        have hx1 := HX1.out
        go_upto_region 13 with (go_at_call 24; (with_reducible refine (eWrap _ _ e _ _ HV.out).mono ?_); rintro r w5 ⟨v1, rfl, hv5, hb⟩; have HV5 := Aside0.mk hv5; have HX5 := Aside0.mk (blk_below HX.out hb); have HY5 := Aside0.mk (blk_below HY.out hb); have HN5 := Aside0.mk (HN.out.below hb); have HB5 := Aside0.mk (below_step HB.out hb); have HX15 := Aside0.mk (pw_cell_below hb HX1.out); clear hv5 hb)
        refine start_ (n := 10) (S := fun w' => True) (ds := []) #[false, false, false, false, false, false, false, false, false, false] (by kernel_rfl) rfl rfl trivial (fun hHeld => ?_)
        refine with_tabW fm.tab13 fm.bits13 (fun HT_ HW_ => ?_)
        have n1_ := Aside0.mk (pw_cell_below (Below.refl _ _).drew HX15.out); have n2_ := Aside0.mk (blk_drew HX5.out); have n3_ := Aside0.mk (blk_drew HY5.out); have n4_ := Aside0.mk (HN5.out.below (Below.refl _ _).drew); have n5_ := Aside0.mk (HV5.out.below (Below.refl _ _).drew); have n6_ := Aside0.mk HB5.out.drew; clear HX0 HX1 HX HY HN HV HB HX15 HX5 HY5 HN5 HV5 HB5 hx1; have HX1 := n1_; have HX := n2_; have HY := n3_; have HN := n4_; have HV := n5_; have HB := n6_; clear n1_ n2_ n3_ n4_ n5_ n6_; generalize w5.drew = wd at HX1 HX HY HN HV HB ⊢
        refine pure_ (i := 0) (N := some 75) (v := ?_) (a' := ?_) #[true, false, false, false, false, false, false, false, false, false] rfl rfl (any_of HT_.out (by kernel_rfl)) (fun _ _ _ h => h) (Or.inl ⟨by rfl, ?_⟩) ?_ ?_
        rotate_left
        · intro w'
          go_simp
          with_reducible rfl
        rotate_left
        · simp only [Act.put, List.setIfInBounds_toArray, List.set_cons_zero, List.set_cons_succ, i64_w, i32_w]
          rfl
        refine pure_ (i := 1) (N := some 76) (v := ?_) (a' := ?_) #[true, true, false, false, false, false, false, false, false, false] rfl rfl (any_of HT_.out (by kernel_rfl)) (fun _ _ _ h => h) (Or.inl ⟨by rfl, ?_⟩) ?_ ?_
        rotate_left
        · intro w'
          go_simp
          with_reducible rfl
        rotate_left
        · simp only [Act.put, List.setIfInBounds_toArray, List.set_cons_zero, List.set_cons_succ, i64_w, i32_w]
          rfl
        refine pure_ (i := 2) (N := some 77) (v := ?_) (a' := ?_) #[true, true, true, false, false, false, false, false, false, false] rfl rfl (any_of HT_.out (by kernel_rfl)) (fun _ _ _ h => h) (Or.inl ⟨by rfl, ?_⟩) ?_ ?_
        rotate_left
        · intro w'
          go_simp
          with_reducible rfl
        rotate_left
        · simp only [Act.put, List.setIfInBounds_toArray, List.set_cons_zero, List.set_cons_succ, i64_w, i32_w]
          rfl
        refine pure_ (i := 3) (N := some 78) (v := ?_) (a' := ?_) #[true, true, true, true, false, false, false, false, false, false] rfl rfl (any_of HT_.out (by kernel_rfl)) (fun _ _ _ h => h) (Or.inl ⟨by rfl, ?_⟩) ?_ ?_
        rotate_left
        · intro w'
          go_simp
          with_reducible rfl
        rotate_left
        · simp only [Act.put, List.setIfInBounds_toArray, List.set_cons_zero, List.set_cons_succ, i64_w, i32_w]
          rfl
        refine pure_ (i := 4) (N := some 79) (v := ?_) (a' := ?_) #[true, true, true, true, true, false, false, false, false, false] rfl rfl (any_of HT_.out (by kernel_rfl)) (fun _ _ _ h => h) (Or.inl ⟨by rfl, ?_⟩) ?_ ?_
        rotate_left
        · intro w'
          go_simp
          with_reducible rfl
        rotate_left
        · simp only [Act.put, List.setIfInBounds_toArray, List.set_cons_zero, List.set_cons_succ, i64_w, i32_w]
          rfl
        refine inv_at [5, 6, 7, 8, 9] (fun a0_ b a w' => ∃ (gk : Nat) (m7_ : Value) (m8_ : Value), a = putSel a0_ b [(5, 80, .int .i64 p), (6, 81, .agg #[.int .i64 k, .int .i64 ta, .int .i64 n, .string op, .slice sA sn sc]), (7, 82, m7_), (8, 83, m8_)] ∧ (b 9 = false → w'.cell? ⟨(ad.add (j * 4)).block, (ad.add (j * 4)).off + 1, none⟩ = some (.int .i64 p)) ∧ (b 9 = false → w'.heap[g7]? = some (.cells #[.int .i64 k, .int .i64 ta, .int .i64 n, .string op, .slice sA sn sc] 30 (0, 0))) ∧ (b 9 = true → w'.heap[g7]? = some (.cells #[.int .i64 1, .int .i64 p, .int .i64 0, .string (x.extract 0 nn), .slice (some ⟨gk, 0, none⟩) 1 1] 30 (0, 0))) ∧ (b 7 = true → w'.heap[gk]? = some (.cells #[.int .i64 k, .int .i64 ta, .int .i64 n, .string op, .slice sA sn sc] 30 (0, 0))) ∧ (b 7 = true → g7 + 1 ≤ gk) ∧ (w'.heap[g5]? = some (.cells #[.int .i64 0, .int .i64 0, .int .i64 0, .string ⟨#[]⟩, .slice none 0 0] 30 (0, 0))) ∧ (NodeV w' (g7 + 1) k ta n op (.slice sA sn sc) e) ∧ (ErV w' v1 (.wrap (x.extract 0 nn) p e)) ∧ (Below w.heap.size w w') ∧ (b 7 = true → (m7_ : Value) = .slice (some ⟨gk, 0, none⟩) 1 1) ∧ (b 8 = true → (m8_ : Value) = .agg #[.int .i64 1, .int .i64 p, .int .i64 0, .string (x.extract 0 nn), .slice (some ⟨gk, 0, none⟩) 1 1])) HT_.out HW_.out (by kernel_rfl) (by kernel_rfl) ?_ ?_ ?_
        · exact ⟨0, .bool false, .bool false, by simp only [putSel, Bool.false_eq_true, if_false], fun _ => HX1.out, fun _ => HX.out, fun h_ => absurd h_ (by decide), fun h_ => absurd h_ (by decide), fun h_ => absurd h_ (by decide), HY.out, HN.out, HV.out, HB.out, fun h_ => absurd h_ (by decide), fun h_ => absurd h_ (by decide)⟩
        · skip
          clear HB HN HV HX HX1 HY
          refine steps_cons ?_ ?_
          · rintro b a w' ⟨gk, m7_, m8_, ha, Q_HX1, Q_HX, Q_HXN, Q_HK, Q_HGK, Q_HY, Q_HN, Q_HV, Q_HB, Q_X7_, Q_X8_⟩ hb_ hon hoff
            refine ⟨_, rfl, fun K hK => ?_⟩
            have e79 : a.tmps[79]? = some (.pointer (some ⟨(ad.add (j * 4)).block, (ad.add (j * 4)).off + 1, none⟩)) := by rw [ha]; exact (putSel_off rfl).trans rfl
            replace ha := Aside0.mk ha
            have HX1 := Aside0.mk (Q_HX1 (hoff 9 (by kernel_rfl)))
            have HX := Aside0.mk (Q_HX (hoff 9 (by kernel_rfl)))
            have HY := Aside0.mk Q_HY
            have HN := Aside0.mk Q_HN
            have HV := Aside0.mk Q_HV
            have HB := Aside0.mk Q_HB
            have hx_ := HX1.out
            refine value_ (w1 := w') (v := .int .i64 p) (by rfl) rfl ?_ ?_
            · go_simp
              (try simp only [i64_w])
              try rfl
            refine hK.out _ _ ⟨gk, m7_, m8_, (by rw [ha.out]; exact putSel_upk 0 hb_ rfl rfl rfl), Q_HX1, Q_HX, fun h0_ => absurd ((hoff 9 (by kernel_rfl)).symm.trans h0_) (by decide), Q_HK, Q_HGK, Q_HY, Q_HN, Q_HV, Q_HB, Q_X7_, fun h0_ => absurd ((hoff 8 (by kernel_rfl)).symm.trans h0_) (by decide)⟩
          refine steps_cons ?_ ?_
          · rintro b a w' ⟨gk, m7_, m8_, ha, Q_HX1, Q_HX, Q_HXN, Q_HK, Q_HGK, Q_HY, Q_HN, Q_HV, Q_HB, Q_X7_, Q_X8_⟩ hb_ hon hoff
            refine ⟨_, rfl, fun K hK => ?_⟩
            have e7 : a.tmps[7]? = some (.pointer (some ⟨g7, 0, none⟩)) := by rw [ha]; exact (putSel_off rfl).trans rfl
            replace ha := Aside0.mk ha
            have HX1 := Aside0.mk (Q_HX1 (hoff 9 (by kernel_rfl)))
            have HX := Aside0.mk (Q_HX (hoff 9 (by kernel_rfl)))
            have HY := Aside0.mk Q_HY
            have HN := Aside0.mk Q_HN
            have HV := Aside0.mk Q_HV
            have HB := Aside0.mk Q_HB
            have hq0 := (blk_cell HX.out 0).trans rfl
            have hq1 := (blk_cell HX.out 1).trans rfl
            have hq2 := (blk_cell HX.out 2).trans rfl
            have hq3 := (blk_cell HX.out 3).trans rfl
            have hq4 := (blk_cell HX.out 4).trans rfl
            refine value_ (w1 := w') (v := .agg #[.int .i64 k, .int .i64 ta, .int .i64 n, .string op, .slice sA sn sc]) (by rfl) rfl ?_ ?_
            · go_simp
              (try simp only [i64_w])
              try rfl
            refine hK.out _ _ ⟨gk, m7_, m8_, (by rw [ha.out]; exact putSel_upk 1 hb_ rfl rfl rfl), Q_HX1, Q_HX, fun h0_ => absurd ((hoff 9 (by kernel_rfl)).symm.trans h0_) (by decide), fun h0_ => absurd ((hoff 7 (by kernel_rfl)).symm.trans h0_) (by decide), fun h0_ => absurd ((hoff 7 (by kernel_rfl)).symm.trans h0_) (by decide), Q_HY, Q_HN, Q_HV, Q_HB, fun h0_ => absurd ((hoff 7 (by kernel_rfl)).symm.trans h0_) (by decide), fun h0_ => absurd ((hoff 8 (by kernel_rfl)).symm.trans h0_) (by decide)⟩
          refine steps_cons ?_ ?_
          · rintro b a w' ⟨gk, m7_, m8_, ha, Q_HX1, Q_HX, Q_HXN, Q_HK, Q_HGK, Q_HY, Q_HN, Q_HV, Q_HB, Q_X7_, Q_X8_⟩ hb_ hon hoff
            refine ⟨_, rfl, fun K hK => ?_⟩
            have e81 : a.tmps[81]? = some (.agg #[.int .i64 k, .int .i64 ta, .int .i64 n, .string op, .slice sA sn sc]) := by rw [ha]; exact putSel_on (e := (6, 81, .agg #[.int .i64 k, .int .i64 ta, .int .i64 n, .string op, .slice sA sn sc])) 1 rfl rfl (hon 6 (by kernel_rfl)) rfl
            replace ha := Aside0.mk ha
            have HX1 := Aside0.mk (Q_HX1 (hoff 9 (by kernel_rfl)))
            have HX := Aside0.mk (Q_HX (hoff 9 (by kernel_rfl)))
            have HY := Aside0.mk Q_HY
            have HN := Aside0.mk Q_HN
            have HV := Aside0.mk Q_HV
            have HB := Aside0.mk Q_HB
            refine value_ (w1 := w'.alloc (.cells #[.int .i64 k, .int .i64 ta, .int .i64 n, .string op, .slice sA sn sc] 30)) (v := .slice (some ⟨w'.heap.size, 0, none⟩) 1 1) (by rfl) rfl ?_ ?_
            · go_simp
              try rfl
            refine hK.out _ _ ⟨w'.heap.size, (.slice (some ⟨w'.heap.size, 0, none⟩) 1 1), m8_, (by rw [ha.out]; exact putSel_upk 2 hb_ rfl rfl rfl), fun _ => (fun hc_ hb_ => pw_cell_below hb_ hc_) (HX1.out) ((below_alloc (Below.refl _ _) (.cells #[.int .i64 k, .int .i64 ta, .int .i64 n, .string op, .slice sA sn sc] 30))), fun _ => blk_below HX.out (below_alloc (Below.refl _ _) (.cells #[.int .i64 k, .int .i64 ta, .int .i64 n, .string op, .slice sA sn sc] 30)), fun h0_ => absurd ((hoff 9 (by kernel_rfl)).symm.trans h0_) (by decide), fun h0_ => heap_alloc_new w' (.cells #[.int .i64 k, .int .i64 ta, .int .i64 n, .string op, .slice sA sn sc] 30), fun h0_ => blk_lt HX.out, blk_below HY.out (below_alloc (Below.refl _ _) (.cells #[.int .i64 k, .int .i64 ta, .int .i64 n, .string op, .slice sA sn sc] 30)), HN.out.below (below_alloc (Below.refl _ _) (.cells #[.int .i64 k, .int .i64 ta, .int .i64 n, .string op, .slice sA sn sc] 30)), (fun he_ hb_ => ErV.below hb_ he_) (HV.out) ((below_alloc (Below.refl _ _) (.cells #[.int .i64 k, .int .i64 ta, .int .i64 n, .string op, .slice sA sn sc] 30))), below_step HB.out (below_alloc (Below.refl _ _) (.cells #[.int .i64 k, .int .i64 ta, .int .i64 n, .string op, .slice sA sn sc] 30)), fun _ => rfl, fun h0_ => absurd ((hoff 8 (by kernel_rfl)).symm.trans h0_) (by decide)⟩
          refine steps_cons ?_ ?_
          · rintro b a w' ⟨gk, m7_, m8_, ha, Q_HX1, Q_HX, Q_HXN, Q_HK, Q_HGK, Q_HY, Q_HN, Q_HV, Q_HB, Q_X7_, Q_X8_⟩ hb_ hon hoff
            refine ⟨_, rfl, fun K hK => ?_⟩
            have e75 : a.tmps[75]? = some (.string (x.extract 0 nn)) := by rw [ha]; exact (putSel_off rfl).trans rfl
            have e80 : a.tmps[80]? = some (.int .i64 p) := by rw [ha]; exact putSel_on (e := (5, 80, .int .i64 p)) 0 rfl rfl (hon 5 (by kernel_rfl)) rfl
            have e82 : a.tmps[82]? = some (m7_) := by rw [ha]; exact putSel_on (e := (7, 82, m7_)) 2 rfl rfl (hon 7 (by kernel_rfl)) rfl
            rw [Q_X7_ (hon 7 (by kernel_rfl))] at e82
            replace ha := Aside0.mk ha
            have HX1 := Aside0.mk (Q_HX1 (hoff 9 (by kernel_rfl)))
            have HX := Aside0.mk (Q_HX (hoff 9 (by kernel_rfl)))
            have HK := Aside0.mk (Q_HK (hon 7 (by kernel_rfl)))
            have HGK := Aside0.mk (Q_HGK (hon 7 (by kernel_rfl)))
            have HY := Aside0.mk Q_HY
            have HN := Aside0.mk Q_HN
            have HV := Aside0.mk Q_HV
            have HB := Aside0.mk Q_HB
            refine value_ (w1 := w') (v := .agg #[.int .i64 1, .int .i64 p, .int .i64 0, .string (x.extract 0 nn), .slice (some ⟨gk, 0, none⟩) 1 1]) (by rfl) rfl ?_ ?_
            · go_simp
              (try simp only [i64_w])
              try rfl
            refine hK.out _ _ ⟨gk, m7_, (.agg #[.int .i64 1, .int .i64 p, .int .i64 0, .string (x.extract 0 nn), .slice (some ⟨gk, 0, none⟩) 1 1]), (by rw [ha.out]; exact putSel_upk 3 hb_ rfl rfl rfl), Q_HX1, Q_HX, fun h0_ => absurd ((hoff 9 (by kernel_rfl)).symm.trans h0_) (by decide), Q_HK, Q_HGK, Q_HY, Q_HN, Q_HV, Q_HB, Q_X7_, fun _ => rfl⟩
          refine steps_cons ?_ ?_
          · rintro b a w' ⟨gk, m7_, m8_, ha, Q_HX1, Q_HX, Q_HXN, Q_HK, Q_HGK, Q_HY, Q_HN, Q_HV, Q_HB, Q_X7_, Q_X8_⟩ hb_ hon hoff
            refine ⟨_, rfl, fun K hK => ?_⟩
            have e7 : a.tmps[7]? = some (.pointer (some ⟨g7, 0, none⟩)) := by rw [ha]; exact (putSel_off rfl).trans rfl
            have e83 : a.tmps[83]? = some (m8_) := by rw [ha]; exact putSel_on (e := (8, 83, m8_)) 3 rfl rfl (hon 8 (by kernel_rfl)) rfl
            rw [Q_X8_ (hon 8 (by kernel_rfl))] at e83
            replace ha := Aside0.mk ha
            have HX1 := Aside0.mk (Q_HX1 hb_)
            have HX := Aside0.mk (Q_HX hb_)
            have HK := Aside0.mk (Q_HK (hon 7 (by kernel_rfl)))
            have HGK := Aside0.mk (Q_HGK (hon 7 (by kernel_rfl)))
            have HY := Aside0.mk Q_HY
            have HN := Aside0.mk Q_HN
            have HV := Aside0.mk Q_HV
            have HB := Aside0.mk Q_HB
            have hq0 := (blk_cell HX.out 0).trans rfl
            have hq1 := (blk_cell HX.out 1).trans rfl
            have hq2 := (blk_cell HX.out 2).trans rfl
            have hq3 := (blk_cell HX.out 3).trans rfl
            have hq4 := (blk_cell HX.out 4).trans rfl
            have hf0 := blk_frozen HX.out 0
            have hf1 := blk_frozen HX.out 1
            have hf2 := blk_frozen HX.out 2
            have hf3 := blk_frozen HX.out 3
            have hf4 := blk_frozen HX.out 4
            refine skip_ (w1 := put5 w' g7 (.int .i64 1) (.int .i64 p) (.int .i64 0) (.string (x.extract 0 nn)) (.slice (some ⟨gk, 0, none⟩) 1 1)) (by rfl) rfl ?_ ?_
            · unfold put5
              go_simp
              try rfl
            refine hK.out _ _ ⟨gk, m7_, m8_, (by rw [ha.out]; exact putSel_none (v := undef) rfl), fun h0_ => absurd ((up_self b 9).symm.trans h0_) (by decide), fun h0_ => absurd ((up_self b 9).symm.trans h0_) (by decide), fun h0_ => put5_blk HX.out, fun _ => blk_gr5 HK.out (put5_gr w' g7 _ _ _ _ _) (by have := HGK.out; omega), fun _ => HGK.out, blk_gr5 HY.out (put5_gr w' g7 _ _ _ _ _) (by have := HG7.out; omega), NodeV.over (put5_gr w' g7 _ _ _ _ _) (Nat.lt_succ_self _) HN.out, ErV.over (put5_gr w' g7 _ _ _ _ _) HX.out (by decide) (by decide) HV.out, HB.out.grown (put5_gr w' g7 _ _ _ _ _) HB.out.size (fun k_ hk_ => by have h1 := HG7.out; have h2 : k_ = g7 := (by simpa using hk_.symm); omega), Q_X7_, Q_X8_⟩
          exact steps_nil
        rintro b a w9 hall ⟨gk, m7_, m8_, ha, Q_HX1, Q_HX, Q_HXN, Q_HK, Q_HGK, Q_HY, Q_HN, Q_HV, Q_HB, Q_X7_, Q_X8_⟩
        clear HB HN HV HX HX1 HY
        have hb5_ := hall 5 (by kernel_rfl)
        have hb6_ := hall 6 (by kernel_rfl)
        have hb7_ := hall 7 (by kernel_rfl)
        have hb8_ := hall 8 (by kernel_rfl)
        have hb9_ := hall 9 (by kernel_rfl)
        subst ha
        obtain rfl := Q_X7_ hb7_
        obtain rfl := Q_X8_ hb8_
        simp only [putSel, hb5_, hb6_, hb7_, hb8_, hb9_, if_true, Act.put, List.setIfInBounds_toArray, List.set_cons_zero, List.set_cons_succ]
        clear Q_HX1
        clear Q_HX
        have HXN := Aside0.mk (Q_HXN hb9_)
        clear Q_HXN
        have HK := Aside0.mk (Q_HK hb7_)
        clear Q_HK
        have HGK := Aside0.mk (Q_HGK hb7_)
        clear Q_HGK
        have HY := Aside0.mk Q_HY
        clear Q_HY
        have HN := Aside0.mk Q_HN
        clear Q_HN
        have HV := Aside0.mk Q_HV
        clear Q_HV
        have HB := Aside0.mk Q_HB
        clear Q_HB
        clear hall hb5_ hb6_ hb7_ hb8_ hb9_
        go_wp2
        go_roundg (l.length + 1 - (j + 1))
        case measure => have h1_ := HJ1.out; have h2_ := HJ.out; omega
        case rel => exact ⟨j + 1, .wrap (x.extract 0 nn) p e, _, _, _, _, _, _, rfl, by first | rfl | (rw [HI1.out]), ⟨rfl, HJ1.out.1, HJ1.out.2⟩, ⟨by rw [HS.out, HST.out]⟩, HV, HXN, ⟨NodeV.mkW HK.out HGK.out HN.out⟩, HY, HB⟩
    · have HEE := Aside0.mk (show e = madeE n0 l by
        rw [HE.out]
        unfold madeE
        rcases Nat.le_total l.length 10 with h | h
        · rw [show j = l.length by omega, List.take_length, List.take_of_length_le h]
        · rw [show j = 10 by omega])
      have d1 : (decide ((j : Int) < (l.length : Int)) = false ∧ decide (j < l.length) = false ∧ (j < l.length) = False) ∨ ((decide ((j : Int) < (l.length : Int)) = true ∧ decide (j < l.length) = true ∧ (j < l.length) = True) ∧ decide ((j : Int) < 10) = false ∧ decide (j < 10) = false ∧ (j < 10) = False) := by
        by_cases h : j < l.length
        · exact .inr ⟨⟨decide_eq_true (by omega), decide_eq_true h, eq_true h⟩, decide_eq_false (by omega), decide_eq_false (by omega), eq_false (by omega)⟩
        · exact .inl ⟨decide_eq_false (by omega), decide_eq_false h, eq_false h⟩
      have HXX := Aside0.mk d1
      clear d1 hlt hkj
      obtain ⟨vt, vx, rfl⟩ := HV.out.iface
      rcases HXX.out with ⟨d1, d3, p3⟩ | ⟨⟨d1, d3, p3⟩, d2, d4, p4⟩
      all_goals
        go_upto_region 14 with (fail)
        refine start_ (n := 4) (S := fun w' => True) (ds := []) #[false, false, false, false] (by kernel_rfl) rfl rfl trivial (fun hHeld => ?_)
        refine with_tabW fm.tab14 fm.bits14 (fun HT_ HW_ => ?_)
        have n2_ := Aside0.mk (blk_drew HX.out); have n3_ := Aside0.mk (blk_drew HY.out); have n4_ := Aside0.mk (HN.out.below (Below.refl _ _).drew); have n5_ := Aside0.mk (HV.out.below (Below.refl _ _).drew); have n6_ := Aside0.mk HB.out.drew; clear HX HY HN HV HB; have HX := n2_; have HY := n3_; have HN := n4_; have HV := n5_; have HB := n6_; clear n2_ n3_ n4_ n5_ n6_; generalize wr.drew = wd at HX HY HN HV HB ⊢
        refine pure_ (i := 0) (N := some 84) (v := ?_) (a' := ?_) #[true, false, false, false] rfl rfl (any_of HT_.out (by kernel_rfl)) (fun _ _ _ h => h) (Or.inl ⟨by rfl, ?_⟩) ?_ ?_
        rotate_left
        · intro w'
          go_simp
          with_reducible rfl
        rotate_left
        · simp only [Act.put, List.setIfInBounds_toArray, List.set_cons_zero, List.set_cons_succ, i64_w, i32_w]
          rfl
        refine inv_at [1, 2, 3] (fun a0_ b a w' => a = putSel a0_ b [(1, 85, .agg #[.int .i64 k, .int .i64 ta, .int .i64 n, .string op, .slice sA sn sc]), (2, 4, .iface vt vx)] ∧ (w'.heap[g7]? = some (.cells #[.int .i64 k, .int .i64 ta, .int .i64 n, .string op, .slice sA sn sc] 30 (0, 0))) ∧ (b 3 = false → w'.heap[g5]? = some (.cells #[.int .i64 0, .int .i64 0, .int .i64 0, .string ⟨#[]⟩, .slice none 0 0] 30 (0, 0))) ∧ (b 3 = true → w'.heap[g5]? = some (.cells #[.int .i64 k, .int .i64 ta, .int .i64 n, .string op, .slice sA sn sc] 30 (0, 0))) ∧ (NodeV w' (g7 + 1) k ta n op (.slice sA sn sc) e) ∧ (ErV w' (.iface vt vx) e) ∧ (Below w.heap.size w w')) HT_.out HW_.out (by kernel_rfl) (by kernel_rfl) ?_ ?_ ?_
        · exact ⟨by simp only [putSel, Bool.false_eq_true, if_false], HX.out, fun _ => HY.out, fun h_ => absurd h_ (by decide), HN.out, HV.out, HB.out⟩
        · skip
          clear HB HN HV HX HY
          refine steps_cons ?_ ?_
          · rintro b a w' ⟨ha, Q_HX, Q_HY, Q_HYN, Q_HN, Q_HV, Q_HB⟩ hb_ hon hoff
            refine ⟨_, rfl, fun K hK => ?_⟩
            have e7 : a.tmps[7]? = some (.pointer (some ⟨g7, 0, none⟩)) := by rw [ha]; exact (putSel_off rfl).trans rfl
            replace ha := Aside0.mk ha
            have HX := Aside0.mk Q_HX
            have HY := Aside0.mk (Q_HY (hoff 3 (by kernel_rfl)))
            have HN := Aside0.mk Q_HN
            have HV := Aside0.mk Q_HV
            have HB := Aside0.mk Q_HB
            have hq0 := (blk_cell HX.out 0).trans rfl
            have hq1 := (blk_cell HX.out 1).trans rfl
            have hq2 := (blk_cell HX.out 2).trans rfl
            have hq3 := (blk_cell HX.out 3).trans rfl
            have hq4 := (blk_cell HX.out 4).trans rfl
            refine value_ (w1 := w') (v := .agg #[.int .i64 k, .int .i64 ta, .int .i64 n, .string op, .slice sA sn sc]) (by rfl) rfl ?_ ?_
            · go_simp
              (try simp only [i64_w])
              try rfl
            refine hK.out _ _ ⟨(by rw [ha.out]; exact putSel_upk 0 hb_ rfl rfl rfl), Q_HX, Q_HY, fun h0_ => absurd ((hoff 3 (by kernel_rfl)).symm.trans h0_) (by decide), Q_HN, Q_HV, Q_HB⟩
          refine steps_cons ?_ ?_
          · rintro b a w' ⟨ha, Q_HX, Q_HY, Q_HYN, Q_HN, Q_HV, Q_HB⟩ hb_ hon hoff
            refine ⟨_, rfl, fun K hK => ?_⟩
            have e84 : a.tmps[84]? = some (.iface vt vx) := by rw [ha]; exact (putSel_off rfl).trans rfl
            replace ha := Aside0.mk ha
            have HX := Aside0.mk Q_HX
            have HY := Aside0.mk (Q_HY (hoff 3 (by kernel_rfl)))
            have HN := Aside0.mk Q_HN
            have HV := Aside0.mk Q_HV
            have HB := Aside0.mk Q_HB
            refine value_ (w1 := w') (v := .iface vt vx) (by rfl) rfl ?_ ?_
            · go_simp
              (try simp only [i64_w])
              try rfl
            refine hK.out _ _ ⟨(by rw [ha.out]; exact putSel_upk 1 hb_ rfl rfl rfl), Q_HX, Q_HY, fun h0_ => absurd ((hoff 3 (by kernel_rfl)).symm.trans h0_) (by decide), Q_HN, Q_HV, Q_HB⟩
          refine steps_cons ?_ ?_
          · rintro b a w' ⟨ha, Q_HX, Q_HY, Q_HYN, Q_HN, Q_HV, Q_HB⟩ hb_ hon hoff
            refine ⟨_, rfl, fun K hK => ?_⟩
            have e5 : a.tmps[5]? = some (.pointer (some ⟨g5, 0, none⟩)) := by rw [ha]; exact (putSel_off rfl).trans rfl
            have e85 : a.tmps[85]? = some (.agg #[.int .i64 k, .int .i64 ta, .int .i64 n, .string op, .slice sA sn sc]) := by rw [ha]; exact putSel_on (e := (1, 85, .agg #[.int .i64 k, .int .i64 ta, .int .i64 n, .string op, .slice sA sn sc])) 0 rfl rfl (hon 1 (by kernel_rfl)) rfl
            replace ha := Aside0.mk ha
            have HX := Aside0.mk Q_HX
            have HY := Aside0.mk (Q_HY hb_)
            have HN := Aside0.mk Q_HN
            have HV := Aside0.mk Q_HV
            have HB := Aside0.mk Q_HB
            have hq0 := (blk_cell HY.out 0).trans rfl
            have hq1 := (blk_cell HY.out 1).trans rfl
            have hq2 := (blk_cell HY.out 2).trans rfl
            have hq3 := (blk_cell HY.out 3).trans rfl
            have hq4 := (blk_cell HY.out 4).trans rfl
            have hf0 := blk_frozen HY.out 0
            have hf1 := blk_frozen HY.out 1
            have hf2 := blk_frozen HY.out 2
            have hf3 := blk_frozen HY.out 3
            have hf4 := blk_frozen HY.out 4
            refine skip_ (w1 := put5 w' g5 (.int .i64 k) (.int .i64 ta) (.int .i64 n) (.string op) (.slice sA sn sc)) (by rfl) rfl ?_ ?_
            · unfold put5
              go_simp
              try rfl
            refine hK.out _ _ ⟨(by rw [ha.out]; exact putSel_none (v := undef) rfl), blk_gr5 HX.out (put5_gr w' g5 _ _ _ _ _) (by have := HG7.out; omega), fun h0_ => absurd ((up_self b 3).symm.trans h0_) (by decide), fun h0_ => put5_blk HY.out, NodeV.over (put5_gr w' g5 _ _ _ _ _) (by have := HG7.out; omega) HN.out, ErV.over (put5_gr w' g5 _ _ _ _ _) HY.out (by decide) (by decide) HV.out, HB.out.grown (put5_gr w' g5 _ _ _ _ _) HB.out.size (fun k_ hk_ => by have h1 := HG7.out; have h2 : k_ = g5 := (by simpa using hk_.symm); omega)⟩
          exact steps_nil
        rintro b a w9 hall ⟨ha, Q_HX, Q_HY, Q_HYN, Q_HN, Q_HV, Q_HB⟩
        clear HB HN HV HX HY
        have hb1_ := hall 1 (by kernel_rfl)
        have hb2_ := hall 2 (by kernel_rfl)
        have hb3_ := hall 3 (by kernel_rfl)
        subst ha
        simp only [putSel, hb1_, hb2_, hb3_, if_true, Act.put, List.setIfInBounds_toArray, List.set_cons_zero, List.set_cons_succ]
        have HX := Aside0.mk Q_HX
        clear Q_HX
        clear Q_HY
        have HYN := Aside0.mk (Q_HYN hb3_)
        clear Q_HYN
        have HN := Aside0.mk Q_HN
        clear Q_HN
        have HV := Aside0.mk Q_HV
        clear Q_HV
        have HB := Aside0.mk Q_HB
        clear Q_HB
        clear hall hb1_ hb2_ hb3_
        go_wp2
        refine bodyPost_ret (results_tc rfl _ _ g5 30 #[.int .i64 k, .int .i64 ta, .int .i64 n, .string op, .slice sA sn sc] (0, 0) _ rfl HYN.out Tryd.underlying30 rfl (by kernel_rfl)) rfl ?_
        exact ⟨_, k, ta, n, op, .slice sA sn sc, rfl, by rw [← HEE.out]; exact HV.out, by rw [← HEE.out]; exact NodeV.step (fun _ _ _ h => h) (by have := HG7.out; omega) HN.out, HB.out⟩


end Go.Proofs.YtegcaniikdibdaaDoor.VFaultTexts
