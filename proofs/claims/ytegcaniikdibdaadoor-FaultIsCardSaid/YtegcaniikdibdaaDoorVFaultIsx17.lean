/- Contracts of functions of this seat: each call comes to what its Lean function computes; no condition beyond what each theorem states. Printed by a program of this session's own laid over the kit's printer. -/
import Derived.Test.YtegcaniikdibdaaDoorVFaultIsx0
import Derived.Test.YtegcaniikdibdaaDoorVFaultIsx1
import Derived.Test.YtegcaniikdibdaaDoorVFaultIsx4
import Derived.Test.YtegcaniikdibdaaDoorVFaultIsx7
import Derived.Test.YtegcaniikdibdaaDoorVFaultIsx12
import Derived.Test.YtegcaniikdibdaaDoorVFaultIsx14
import Derived.Test.YtegcaniikdibdaaDoorVFaultIsx15
import Derived.Test.YtegcaniikdibdaaDoorVFaultIsx16
namespace Go.Proofs.YtegcaniikdibdaaDoor.VFaultIs
open Go.RowKit Go.Proofs.YtegcaniikdibdaaDoorW.PrintWords Go.Proofs.YtegcaniikdibdaaDoorW.PrintLast Go.Proofs.YtegcaniikdibdaaDoorW.PrintMore
attribute [local go_sem] max2_int min2_int max_two min_two max_three min_three max_four min_four   -- for this text's walks alone
set_option linter.unusedVariables false
set_option linter.unusedSimpArgs false

-- @GIVEN posthorselaw02_FaultIs
/-! ### posthorselaw02_FaultIs: by hand -/
theorem twoI_fold (l : List StepS) : ∀ (e : Er), e.two → (l.foldl stepE e).two := by
  induction l with
  | nil => intro e h; exact h
  | cons s l ih =>
    intro e h
    rw [List.foldl_cons]
    refine ih _ ?_
    unfold stepE
    split
    · exact ⟨rfl, h⟩
    · exact h
theorem sz_fold (l : List StepS) : ∀ (e : Er), (l.foldl stepE e).sz ≤ e.sz + 2 * l.length := by
  induction l with
  | nil => intro e; simp
  | cons s l ih =>
    intro e
    rw [List.foldl_cons]
    have h1 := ih (stepE e s)
    have h2 : (stepE e s).sz ≤ e.sz + 2 := by
      unfold stepE
      split <;> simp [Er.sz]
    simp only [List.length_cons]
    omega
theorem madeE_sz (n : Int) (l : List StepS) : (madeE n l).sz ≤ 1000 := by
  unfold madeE
  have h1 := sz_fold (l.take 10) (.num (nM n))
  have h2 := List.length_take_le 10 l
  simp only [Er.sz] at h1
  omega
theorem hasNum_nums (m : Int) : ∀ e : Er, e.hasNum m = e.nums.any (· == m)
  | .num n => by simp [Er.hasNum, Er.nums]
  | .wrap _ _ e => hasNum_nums m e
  | .many e l => by simp only [Er.hasNum, Er.nums, List.any_append, hasNum_nums m e]
theorem any_snoc (l : List Int) (m : Int) (i : Nat) (h : i < l.length) : (l.take (i + 1)).any (· == m) = ((l.take i).any (· == m) || (l[i] == m)) := by
  rw [List.take_add_one, List.getElem?_eq_getElem h, List.any_append]
  simp
theorem row_cellI {w : World} {B e n c g : Nat} {xs : List Value} (h : w.ownsRow B e 1 (.slice (some ⟨g, 0, none⟩) n c) n xs) (j : Nat) (u : Value) (hj : xs[j]? = some u) : w.cell? ⟨g, j, none⟩ = some u := by
  have := World.ownsRow.cells h (g := g) rfl j u hj
  rwa [add_plain] at this
theorem grownI_far {B : Nat} {a w w' : World} {g : Nat} (h : Below B a w) (hg : w.grownBy w' (some g)) (hB : B ≤ w.heap.size) (hr : B ≤ g) : Below B a w' := h.grown hg hB (fun k e => by have := Option.some.inj e; omega)
def fi.T12 : Bool × List (List Nat × List Nat) := (true, [([], []), ([], []), ([1], [1]), ([0, 2], [0, 2]), ([], []), ([3, 4], [3, 4]), ([5, 3], [5]), ([6], [6]), ([6], [6]), ([6], [6]), ([9, 6], [6, 9]), ([8, 10, 6], [6, 8, 10]), ([11, 6], [6, 11]), ([12, 6], [6, 12]), ([7, 13, 6, 6], [6, 7, 13]), ([6], [6]), ([6], [6]), ([6], [6]), ([17, 6], [6, 17]), ([15, 16, 18, 14, 6], [6, 15, 16, 18]), ([14, 19, 6], [6, 14, 19]), ([6, 20], [6, 20]), ([21, 19, 0, 1, 2, 3, 4, 5, 6, 7, 8, 9, 10, 11, 12, 13, 14, 15, 16, 17, 18, 19, 20, 21], [21])])
def fi.B12 : List Nat := [0, 0, 2, 7, 0, 31, 63, 127, 127, 127, 639, 1919, 3967, 8063, 16383, 127, 127, 127, 131199, 524287, 1048575, 2097151, 4194303]
theorem fi.tab12 : rtab .any (opsOf Tryd.f3 12) = fi.T12 := by kernel_rfl
theorem fi.bits12 : waitsOk fi.T12.2 fi.B12 = true := by kernel_rfl
def posthorselaw02_FaultIs.f (_ : Int) (_ : List StepS) (_ : ByteArray) (_ _ : Int) (_ : Bool) : Option Bool := some true
set_option maxHeartbeats 8000000 in
set_option maxRecDepth 100000 in
theorem posthorselaw02_FaultIs.calls (a0 : Int) (A1 : Option Addr) (c1 : Nat) (l1 : List StepS) (a2_0 : ByteArray) (a2_1 a2_2 : Int) (a2_3 : Bool) (r : Bool) (w : World) (hL_ : Laid w) (hr1 : Kd.C k24 w A1 l1.length l1) (hc1 : l1.length ≤ c1) (h : posthorselaw02_FaultIs.f a0 l1 a2_0 a2_1 a2_2 a2_3 = some r) :
    Calls Tryd.prog 3 #[.int .i64 a0, .slice A1 l1.length c1, .agg #[.string a2_0, .int .i64 a2_1, .int .i64 a2_2, .bool a2_3]] w fun e w' => e = .returned (.bool r) ∧ Below w.heap.size w w' := by
  have HL_ := Aside0.mk hL_
  clear hL_
  obtain rfl := Option.some.inj h
  have HR := Aside0.mk hr1
  have HSP := Aside0.mk (show posthorselaw02_speaks.f = some true from rfl)
  have H2 := Aside0.mk (show (madeE a0 l1).two from twoI_fold _ _ trivial)
  have HZ := Aside0.mk (madeE_sz a0 l1)
  obtain ⟨E, hE⟩ : ∃ E, E = madeE a0 l1 := ⟨_, rfl⟩
  have HE := Aside0.mk hE
  rw [← hE] at H2 HZ
  clear h hr1 hc1 hE
  have hk : wrap64 (1 + (wrap64 (a2_2.tmod 19 + 19)).tmod 19) = nM a2_2 := rfl
  obtain ⟨na, hna⟩ : ∃ na, min a2_0.size 20 = na := ⟨_, rfl⟩
  have hmn : (if (20 : Int) < (a2_0.size : Int) then (20 : Int) else (a2_0.size : Int)) = (na : Int) := by split <;> omega
  have hm1 : decide ((0 : Int) ≤ (na : Int)) = true := decide_eq_true (by omega)
  have hm2 : decide ((na : Int) ≤ (a2_0.size : Int)) = true := decide_eq_true (by omega)
  have hm3 : decide (na ≤ a2_0.size) = true := decide_eq_true (by omega)
  have hm4 := eq_true (show (na : Int) ≤ (a2_0.size : Int) by omega)
  have hm5 := eq_true (show na ≤ a2_0.size by omega)
  have hba := below_alloc (Below.refl w.heap.size w) (.cells #[.string a2_0, .int .i64 a2_1, .int .i64 a2_2, .bool a2_3] 24)
  have HB0 := Aside0.mk hba
  have H50 := Aside0.mk (blk_new w (.cells #[.string a2_0, .int .i64 a2_1, .int .i64 a2_2, .bool a2_3] 24))
  have HR0 := Aside0.mk (Kd.C_below HR.out hba)
  have HL0 := Aside0.mk (Laid.below HL_.out hba)
  clear hna hba
  generalize nM a2_2 = m at hk
  go_enter Tryd.func3, Tryd.ntmps3
  go_upto_region 4 with (first
    | (go_at_call 10; (with_reducible refine (posthorselaw02_speaks.calls true _ HL0.out HSP.out).mono ?_); rintro e w1 ⟨rfl, hb1⟩; have HB1 := Aside0.mk (below_step HB0.out hb1); have H51 := Aside0.mk (blk_below H50.out hb1); have HR1 := Aside0.mk (Kd.C_below HR0.out hb1); clear hb1)
    | (go_at_call 11; go_loud (refine (made_calls a0 l1 A1 c1 _ HR1.out).mono ?_; rw [← HE.out]; rintro e w2 ⟨v, k, ta, n, op, sl, rfl, hv2, hn2, hb2⟩; obtain ⟨sA, sn, sc, rfl⟩ := hn2.slice; obtain ⟨vt, vx, rfl⟩ := hv2.iface; have HV2 := Aside0.mk hv2; have HN2 := Aside0.mk hn2; have HB2 := Aside0.mk (below_step HB1.out hb2); have H52 := Aside0.mk (blk_below H51.out hb2); clear hv2 hn2 hb2 HB1))
    | ((with_reducible refine gate_dst (N := 8) rfl ?_); refine box_event ?hg (N := 8) ?hd (cs := #[.int .i64 0, .int .i64 0, .int .i64 0, .string ⟨#[]⟩, .slice none 0 0]) (t := 30) ?hr ?_; (case hd => rfl); (case hg => rfl); (case hr => first | (go_simp; done) | (go_simp; rfl)); intro g8 hg8 w6 hbox hb; have HG8 := Aside0.mk (show w2.heap.size ≤ g8 by rw [hg8]; exact Nat.le_refl _); have HX6 := Aside0.mk hbox; have HB26 := Aside0.mk hb; have hq0 := (blk_cell hbox 0).trans rfl; have hq1 := (blk_cell hbox 1).trans rfl; have hq2 := (blk_cell hbox 2).trans rfl; have hq3 := (blk_cell hbox 3).trans rfl; have hq4 := (blk_cell hbox 4).trans rfl; have hf0 := blk_frozen hbox 0; have hf1 := blk_frozen hbox 1; have hf2 := blk_frozen hbox 2; have hf3 := blk_frozen hbox 3; have hf4 := blk_frozen hbox 4; clear hg8 hbox hb))
  clear hq0 hq1 hq2 hq3 hq4 hf0 hf1 hf2 hf3 hf4
  obtain ⟨w8, hw8⟩ : ∃ w8, w8 = put5 w6 g8 (.int .i64 k) (.int .i64 ta) (.int .i64 n) (.string op) (.slice sA sn sc) := ⟨_, rfl⟩
  have hg8 := put5_gr w6 g8 (.int .i64 k) (.int .i64 ta) (.int .i64 n) (.string op) (.slice sA sn sc)
  have hx8 := put5_blk (a' := .int .i64 k) (b' := .int .i64 ta) (c' := .int .i64 n) (d' := .string op) (e' := .slice sA sn sc) HX6.out
  rw [← hw8] at hg8 hx8
  have hb28 := grownI_far HB26.out hg8 HB26.out.size HG8.out
  have HX8 := Aside0.mk hx8
  have HB8 := Aside0.mk (below_step HB2.out hb28)
  have HV8 := Aside0.mk (HV2.out.below hb28)
  have HN8 := Aside0.mk (HN2.out.below hb28)
  have H58 := Aside0.mk (blk_below H52.out hb28)
  unfold put5 at hw8
  rw [← hw8]
  have hx0 := (blk_cell hx8 0).trans rfl
  have hx1 := (blk_cell hx8 1).trans rfl
  have hx2 := (blk_cell hx8 2).trans rfl
  have hx3 := (blk_cell hx8 3).trans rfl
  have hx4 := (blk_cell hx8 4).trans rfl
  have hz2 := (blk_cell H58.out 2).trans rfl
  clear hw8 hg8 hx8 hb28 HX6 HB26 HV2 HN2 H52 HB2 HG8
  go_wp2_with (go_at_call 12; refine (numbers_tree _ E k ta n op (.slice sA sn sc) _ H2.out HZ.out HN8.out).mono ?_; rintro e w9 ⟨sv, rfl, ho, hb⟩; obtain ⟨gr, cr, rfl, _⟩ := row_open ho E.nums_pos; have HO9 := Aside0.mk ho; have HX9 := Aside0.mk (blk_below HX8.out hb); have HB9 := Aside0.mk (below_step HB8.out hb); have HV9 := Aside0.mk (HV8.out.below hb); have HN9 := Aside0.mk (HN8.out.below hb); have H59 := Aside0.mk (blk_below H58.out hb); clear ho hb)
  clear hx0 hx1 hx2 hx3 hx4 hz2 HX8 HB8 HV8 HN8 H58
  have HMM := Aside0.mk (hasNum_nums m E)
  have HLM := Aside0.mk (show E.nums.length ≤ 1000 from Nat.le_trans E.nums_sz HZ.out)
  generalize E.nums = ns at HO9 HMM HLM ⊢
  go_loopg [10, 12] (ns.length + 1) (fun kq v10 v12 w' => ∃ i : Nat, v10 = .bool ((ns.take i).any (· == m)) ∧ v12 = .int .i64 (i : Int) ∧ Aside0 (kq = ns.length + 1 - i ∧ i ≤ ns.length) ∧ Aside0 (w' = w9))
  case atStart => exact ⟨0, rfl, rfl, ⟨by omega, by omega⟩, ⟨rfl⟩⟩
  case round =>
    obtain ⟨i, hs10, hs12, HJ, HW⟩ := hrel
    subst hs10 hs12
    obtain rfl := HW.out
    have hi2 := HJ.out
    by_cases hlt : i < ns.length
    · have u1 : decide ((i : Int) < (ns.length : Int)) = true := decide_eq_true (by omega)
      have u2 : decide (i < ns.length) = true := decide_eq_true hlt
      have u3 := eq_true (show (0 : Int) ≤ (i : Int) by omega)
      have u4 := eq_true (show (i : Int) < (ns.length : Int) by omega)
      have u5 := eq_true hlt
      have HU := Aside0.mk (show wrap64 ((i : Int) + 1) = ((i + 1 : Nat) : Int) by have := HLM.out; unfold wrap64; omega)
      have HLT := Aside0.mk hlt
      have HS := Aside0.mk (any_snoc ns m i hlt)
      have hcell := row_cellI HO9.out i (.int .i64 ns[i]) (by rw [List.getElem?_map, List.getElem?_eq_getElem hlt]; rfl)
      generalize ns[i] = x at hcell HS
      generalize (ns.take i).any (· == m) = q at HS ⊢
      clear hi2
      cases q with
      | true =>
        go_wp2_with fail
        go_roundg (ns.length + 1 - (i + 1))
        case measure => have h1_ := HJ.out; have h2_ := HLT.out; omega
        case rel => exact ⟨i + 1, by rw [HS.out]; rfl, by first | rfl | (rw [HU.out]), ⟨rfl, HLT.out⟩, ⟨rfl⟩⟩
      | false =>
        go_wp2_with fail
        go_roundg (ns.length + 1 - (i + 1))
        case measure => have h1_ := HJ.out; have h2_ := HLT.out; omega
        case rel => exact ⟨i + 1, by rw [HS.out]; rfl, by first | rfl | (rw [HU.out]), ⟨rfl, HLT.out⟩, ⟨rfl⟩⟩
    · have u1 : decide ((i : Int) < (ns.length : Int)) = false := decide_eq_false (by omega)
      have u2 : decide (i < ns.length) = false := decide_eq_false hlt
      have u5 := eq_false hlt
      have hq : (ns.take i).any (· == m) = E.hasNum m := by rw [HMM.out, show i = ns.length by omega, List.take_length]
      rw [hq]
      have HI3 := Aside0.mk (eIsN m E)
      have HF3 := Aside0.mk (fun (W : World) (g : Nat) => eIsF g (a2_0.extract 0 na) a2_1 E (.iface vt vx) W)
      have HH3 := Aside0.mk (fun (W : World) (hn : NodeV W w1.heap.size k ta n op (.slice sA sn sc) E) => has_tree w1.heap.size (a2_0.extract 0 na) a2_1 E k ta n op (.slice sA sn sc) W H2.out hn)
      generalize E.hasNum m = q1 at HI3 ⊢
      generalize E.hasF (a2_0.extract 0 na) a2_1 = q2 at HF3 HH3
      have hy0 := (blk_cell H59.out 0).trans rfl
      clear hq hi2
      go_upto_region 12 with (fail)
      refine start_ (n := 23) (S := fun w' => True) (ds := []) #[false, false, false, false, false, false, false, false, false, false, false, false, false, false, false, false, false, false, false, false, false, false, false] (by kernel_rfl) rfl rfl trivial (fun hHeld => ?_)
      refine with_tabW fi.tab12 fi.bits12 (fun HT_ HW_ => ?_)
      clear hy0; have n1_ := Aside0.mk (blk_drew HX9.out); have n2_ := Aside0.mk (blk_drew H59.out); have n3_ := Aside0.mk (HV9.out.below (Below.refl _ _).drew); have n4_ := Aside0.mk (HN9.out.below (Below.refl _ _).drew); have n6_ := Aside0.mk HB9.out.drew; clear HX9 H59 HV9 HN9 HB9 HO9 HW; have HX := n1_; have H5 := n2_; have HV := n3_; have HN := n4_; have HB := n6_; clear n1_ n2_ n3_ n4_ n6_; generalize wr.drew = wd at HX H5 HV HN HB ⊢
      refine pure_ (i := 0) (N := some 52) (v := ?_) (a' := ?_) #[true, false, false, false, false, false, false, false, false, false, false, false, false, false, false, false, false, false, false, false, false, false, false] rfl rfl (any_of HT_.out (by kernel_rfl)) (fun _ _ _ h => h) (Or.inl ⟨by rfl, ?_⟩) ?_ ?_
      rotate_left
      · intro w'
        go_simp
        with_reducible rfl
      rotate_left
      · simp only [Act.put, List.setIfInBounds_toArray, List.set_cons_zero, List.set_cons_succ, i64_w, i32_w]
        rfl
      refine pure_ (i := 1) (N := some 53) (v := ?_) (a' := ?_) #[true, true, false, false, false, false, false, false, false, false, false, false, false, false, false, false, false, false, false, false, false, false, false] rfl rfl (any_of HT_.out (by kernel_rfl)) (fun _ _ _ h => h) (Or.inl ⟨by rfl, ?_⟩) ?_ ?_
      rotate_left
      · intro w'
        go_simp
        with_reducible rfl
      rotate_left
      · simp only [Act.put, List.setIfInBounds_toArray, List.set_cons_zero, List.set_cons_succ, i64_w, i32_w]
        rfl
      refine pure_ (i := 2) (N := some 54) (v := ?_) (a' := ?_) #[true, true, true, false, false, false, false, false, false, false, false, false, false, false, false, false, false, false, false, false, false, false, false] rfl rfl (any_of HT_.out (by kernel_rfl)) (fun _ _ _ h => h) (Or.inl ⟨by rfl, ?_⟩) ?_ ?_
      rotate_left
      · intro w'
        go_simp
        with_reducible rfl
      rotate_left
      · simp only [Act.put, List.setIfInBounds_toArray, List.set_cons_zero, List.set_cons_succ, i64_w, i32_w]
        rfl
      refine pure_ (i := 4) (N := some 56) (v := ?_) (a' := ?_) #[true, true, true, false, true, false, false, false, false, false, false, false, false, false, false, false, false, false, false, false, false, false, false] rfl rfl (any_of HT_.out (by kernel_rfl)) (fun _ _ _ h => h) (Or.inl ⟨by rfl, ?_⟩) ?_ ?_
      rotate_left
      · intro w'
        go_simp
        with_reducible rfl
      rotate_left
      · simp only [Act.put, List.setIfInBounds_toArray, List.set_cons_zero, List.set_cons_succ, i64_w, i32_w]
        rfl
      refine inv_at [3, 5, 6, 7, 8, 9, 10, 11, 12, 13, 14, 15, 16, 17, 18, 19, 20, 21, 22] (fun a0_ b a w' => ∃ (gb : Nat) (m12_ : Value) (m13_ : Value), a = putSel a0_ b [(3, 55, .bool q1), (5, 57, .bool true), (6, 58, .bool true), (7, 59, .iface vt vx), (8, 60, .string (a2_0.extract 0 na)), (9, 61, .pointer (some ⟨w.heap.size, 1, none⟩)), (10, 62, .int .i64 a2_1), (11, 63, .agg #[.string (a2_0.extract 0 na), .int .i64 a2_1, .nilIface]), (12, 64, m12_), (13, 65, m13_), (14, 66, .bool q2), (15, 67, .agg #[.int .i64 k, .int .i64 ta, .int .i64 n, .string op, .slice sA sn sc]), (16, 68, .string (a2_0.extract 0 na)), (17, 69, .pointer (some ⟨w.heap.size, 1, none⟩)), (18, 70, .int .i64 a2_1), (19, 71, .bool q2), (20, 72, .bool true), (21, 73, .bool true), (22, 6, .bool true)] ∧ (Below w.heap.size w w') ∧ (w'.heap[g8]? = some (.cells #[.int .i64 k, .int .i64 ta, .int .i64 n, .string op, .slice sA sn sc] 30 (0, 0))) ∧ (w'.heap[w.heap.size]? = some (.cells #[.string a2_0, .int .i64 a2_1, .int .i64 a2_2, .bool a2_3] 24 (0, 0))) ∧ (ErV w' (.iface vt vx) E) ∧ (NodeV w' w1.heap.size k ta n op (.slice sA sn sc) E) ∧ (b 12 = true → w'.heap[gb]? = some (.cells #[.string (a2_0.extract 0 na), .int .i64 a2_1, .nilIface] 39 (0, 0))) ∧ (b 12 = true → (m12_ : Value) = .pointer (some ⟨gb, 0, none⟩)) ∧ (b 13 = true → (m13_ : Value) = .iface 37 (.pointer (some ⟨gb, 0, none⟩)))) HT_.out HW_.out (by kernel_rfl) (by kernel_rfl) ?_ ?_ ?_
      · exact ⟨0, .bool false, .bool false, by simp only [putSel, Bool.false_eq_true, if_false], HB.out, HX.out, H5.out, HV.out, HN.out, fun h_ => absurd h_ (by decide), fun h_ => absurd h_ (by decide), fun h_ => absurd h_ (by decide)⟩
      · skip
        clear H5 HB HN HV HX
        refine steps_cons ?_ ?_
        · rintro b a w' ⟨gb, m12_, m13_, ha, Q_HB, Q_HX, Q_H5, Q_HV, Q_HN, Q_HGB, Q_X12_, Q_X13_⟩ hb_ hon hoff
          refine ⟨_, rfl, fun K hK => ?_⟩
          have e52 : a.tmps[52]? = some (.iface vt vx) := by rw [ha]; exact (putSel_off rfl).trans rfl
          have e54 : a.tmps[54]? = some (.iface 36 (.int .i64 m)) := by rw [ha]; exact (putSel_off rfl).trans rfl
          replace ha := Aside0.mk ha
          have HB := Aside0.mk Q_HB
          have HX := Aside0.mk Q_HX
          have H5 := Aside0.mk Q_H5
          have HV := Aside0.mk Q_HV
          have HN := Aside0.mk Q_HN
          refine goes_ Tryd.func13 (by kernel_rfl) rfl #[.iface vt vx, .iface 36 (.int .i64 m)] (by rfl) rfl rfl (by first | (simp only [List.map_toArray, List.map_cons, List.map_nil, Act.eval, Array.getD_eq_getD_getElem?, Option.getD_some, e52, e54]; done) | (simp only [List.map_toArray, List.map_cons, List.map_nil, Act.eval, Array.getD_eq_getD_getElem?, Option.getD_some, e52, e54]; rfl)) ?_
          refine (HI3.out _ _ HV.out).mono ?_
          rintro e_ wN ⟨rfl, hbw_⟩
          refine ⟨_, rfl, ?_⟩
          refine hK.out _ _ ⟨gb, m12_, m13_, (by rw [ha.out]; exact putSel_upk 0 hb_ rfl rfl rfl), below_step HB.out hbw_, blk_below HX.out hbw_, blk_below H5.out hbw_, (fun he_ hb_ => ErV.below hb_ he_) (HV.out) (hbw_), (fun he_ hb_ => NodeV.below hb_ he_) (HN.out) (hbw_), fun h0_ => absurd ((hoff 12 (by kernel_rfl)).symm.trans h0_) (by decide), fun h0_ => absurd ((hoff 12 (by kernel_rfl)).symm.trans h0_) (by decide), fun h0_ => absurd ((hoff 13 (by kernel_rfl)).symm.trans h0_) (by decide)⟩
        refine steps_cons ?_ ?_
        · rintro b a w' ⟨gb, m12_, m13_, ha, Q_HB, Q_HX, Q_H5, Q_HV, Q_HN, Q_HGB, Q_X12_, Q_X13_⟩ hb_ hon hoff
          refine ⟨_, rfl, fun K hK => ?_⟩
          have e55 : a.tmps[55]? = some (.bool q1) := by rw [ha]; exact putSel_on (e := (3, 55, .bool q1)) 0 rfl rfl (hon 3 (by kernel_rfl)) rfl
          have e56 : a.tmps[56]? = some (.bool q1) := by rw [ha]; exact (putSel_off rfl).trans rfl
          replace ha := Aside0.mk ha
          have HB := Aside0.mk Q_HB
          have HX := Aside0.mk Q_HX
          have H5 := Aside0.mk Q_H5
          have HV := Aside0.mk Q_HV
          have HN := Aside0.mk Q_HN
          refine value_ (w1 := w') (v := .bool true) (by rfl) rfl ?_ ?_
          · go_simp
            (try simp only [i64_w])
            try rfl
          refine hK.out _ _ ⟨gb, m12_, m13_, (by rw [ha.out]; exact putSel_upk 1 hb_ rfl rfl rfl), Q_HB, Q_HX, Q_H5, Q_HV, Q_HN, fun h0_ => absurd ((hoff 12 (by kernel_rfl)).symm.trans h0_) (by decide), fun h0_ => absurd ((hoff 12 (by kernel_rfl)).symm.trans h0_) (by decide), fun h0_ => absurd ((hoff 13 (by kernel_rfl)).symm.trans h0_) (by decide)⟩
        refine steps_cons ?_ ?_
        · rintro b a w' ⟨gb, m12_, m13_, ha, Q_HB, Q_HX, Q_H5, Q_HV, Q_HN, Q_HGB, Q_X12_, Q_X13_⟩ hb_ hon hoff
          refine ⟨_, rfl, fun K hK => ?_⟩
          have e57 : a.tmps[57]? = some (.bool true) := by rw [ha]; exact putSel_on (e := (5, 57, .bool true)) 1 rfl rfl (hon 5 (by kernel_rfl)) rfl
          replace ha := Aside0.mk ha
          have HB := Aside0.mk Q_HB
          have HX := Aside0.mk Q_HX
          have H5 := Aside0.mk Q_H5
          have HV := Aside0.mk Q_HV
          have HN := Aside0.mk Q_HN
          refine value_ (w1 := w') (v := .bool true) (by rfl) rfl ?_ ?_
          · go_simp
            (try simp only [i64_w])
            try rfl
          refine hK.out _ _ ⟨gb, m12_, m13_, (by rw [ha.out]; exact putSel_upk 2 hb_ rfl rfl rfl), Q_HB, Q_HX, Q_H5, Q_HV, Q_HN, fun h0_ => absurd ((hoff 12 (by kernel_rfl)).symm.trans h0_) (by decide), fun h0_ => absurd ((hoff 12 (by kernel_rfl)).symm.trans h0_) (by decide), fun h0_ => absurd ((hoff 13 (by kernel_rfl)).symm.trans h0_) (by decide)⟩
        refine steps_cons ?_ ?_
        · rintro b a w' ⟨gb, m12_, m13_, ha, Q_HB, Q_HX, Q_H5, Q_HV, Q_HN, Q_HGB, Q_X12_, Q_X13_⟩ hb_ hon hoff
          refine ⟨_, rfl, fun K hK => ?_⟩
          have e7 : a.tmps[7]? = some (.iface vt vx) := by rw [ha]; exact (putSel_off rfl).trans rfl
          have e58 : a.tmps[58]? = some (.bool true) := by rw [ha]; exact putSel_on (e := (6, 58, .bool true)) 2 rfl rfl (hon 6 (by kernel_rfl)) rfl
          replace ha := Aside0.mk ha
          have HB := Aside0.mk Q_HB
          have HX := Aside0.mk Q_HX
          have H5 := Aside0.mk Q_H5
          have HV := Aside0.mk Q_HV
          have HN := Aside0.mk Q_HN
          refine value_ (w1 := w') (v := .iface vt vx) (wanted_on rfl rfl rfl (e58.trans (by first | rfl | (simp [*]; done)))) rfl ?_ ?_
          · go_simp
            (try simp only [i64_w])
            try rfl
          refine hK.out _ _ ⟨gb, m12_, m13_, (by rw [ha.out]; exact putSel_upk 3 hb_ rfl rfl rfl), Q_HB, Q_HX, Q_H5, Q_HV, Q_HN, Q_HGB, Q_X12_, Q_X13_⟩
        refine steps_cons ?_ ?_
        · rintro b a w' ⟨gb, m12_, m13_, ha, Q_HB, Q_HX, Q_H5, Q_HV, Q_HN, Q_HGB, Q_X12_, Q_X13_⟩ hb_ hon hoff
          refine ⟨_, rfl, fun K hK => ?_⟩
          have e13 : a.tmps[13]? = some (.string (a2_0.extract 0 na)) := by rw [ha]; exact (putSel_off rfl).trans rfl
          have e58 : a.tmps[58]? = some (.bool true) := by rw [ha]; exact putSel_on (e := (6, 58, .bool true)) 2 rfl rfl (hon 6 (by kernel_rfl)) rfl
          replace ha := Aside0.mk ha
          have HB := Aside0.mk Q_HB
          have HX := Aside0.mk Q_HX
          have H5 := Aside0.mk Q_H5
          have HV := Aside0.mk Q_HV
          have HN := Aside0.mk Q_HN
          refine value_ (w1 := w') (v := .string (a2_0.extract 0 na)) (wanted_on rfl rfl rfl (e58.trans (by first | rfl | (simp [*]; done)))) rfl ?_ ?_
          · go_simp
            (try simp only [i64_w])
            try rfl
          refine hK.out _ _ ⟨gb, m12_, m13_, (by rw [ha.out]; exact putSel_upk 4 hb_ rfl rfl rfl), Q_HB, Q_HX, Q_H5, Q_HV, Q_HN, fun h0_ => absurd ((hoff 12 (by kernel_rfl)).symm.trans h0_) (by decide), fun h0_ => absurd ((hoff 12 (by kernel_rfl)).symm.trans h0_) (by decide), fun h0_ => absurd ((hoff 13 (by kernel_rfl)).symm.trans h0_) (by decide)⟩
        refine steps_cons ?_ ?_
        · rintro b a w' ⟨gb, m12_, m13_, ha, Q_HB, Q_HX, Q_H5, Q_HV, Q_HN, Q_HGB, Q_X12_, Q_X13_⟩ hb_ hon hoff
          refine ⟨_, rfl, fun K hK => ?_⟩
          have e5 : a.tmps[5]? = some (.pointer (some ⟨w.heap.size, 0, none⟩)) := by rw [ha]; exact (putSel_off rfl).trans rfl
          have e58 : a.tmps[58]? = some (.bool true) := by rw [ha]; exact putSel_on (e := (6, 58, .bool true)) 2 rfl rfl (hon 6 (by kernel_rfl)) rfl
          replace ha := Aside0.mk ha
          have HB := Aside0.mk Q_HB
          have HX := Aside0.mk Q_HX
          have H5 := Aside0.mk Q_H5
          have HV := Aside0.mk Q_HV
          have HN := Aside0.mk Q_HN
          refine value_ (w1 := w') (v := .pointer (some ⟨w.heap.size, 1, none⟩)) (wanted_on rfl rfl rfl (e58.trans (by first | rfl | (simp [*]; done)))) rfl ?_ ?_
          · go_simp
            (try simp only [i64_w])
            try rfl
          refine hK.out _ _ ⟨gb, m12_, m13_, (by rw [ha.out]; exact putSel_upk 5 hb_ rfl rfl rfl), Q_HB, Q_HX, Q_H5, Q_HV, Q_HN, fun h0_ => absurd ((hoff 12 (by kernel_rfl)).symm.trans h0_) (by decide), fun h0_ => absurd ((hoff 12 (by kernel_rfl)).symm.trans h0_) (by decide), fun h0_ => absurd ((hoff 13 (by kernel_rfl)).symm.trans h0_) (by decide)⟩
        refine steps_cons ?_ ?_
        · rintro b a w' ⟨gb, m12_, m13_, ha, Q_HB, Q_HX, Q_H5, Q_HV, Q_HN, Q_HGB, Q_X12_, Q_X13_⟩ hb_ hon hoff
          refine ⟨_, rfl, fun K hK => ?_⟩
          have e61 : a.tmps[61]? = some (.pointer (some ⟨w.heap.size, 1, none⟩)) := by rw [ha]; exact putSel_on (e := (9, 61, .pointer (some ⟨w.heap.size, 1, none⟩))) 5 rfl rfl (hon 9 (by kernel_rfl)) rfl
          have e58 : a.tmps[58]? = some (.bool true) := by rw [ha]; exact putSel_on (e := (6, 58, .bool true)) 2 rfl rfl (hon 6 (by kernel_rfl)) rfl
          replace ha := Aside0.mk ha
          have HB := Aside0.mk Q_HB
          have HX := Aside0.mk Q_HX
          have H5 := Aside0.mk Q_H5
          have HV := Aside0.mk Q_HV
          have HN := Aside0.mk Q_HN
          have hx_ := (blk_cell H5.out 1).trans rfl
          refine value_ (w1 := w') (v := .int .i64 a2_1) (wanted_on rfl rfl rfl (e58.trans (by first | rfl | (simp [*]; done)))) rfl ?_ ?_
          · go_simp
            (try simp only [i64_w])
            try rfl
          refine hK.out _ _ ⟨gb, m12_, m13_, (by rw [ha.out]; exact putSel_upk 6 hb_ rfl rfl rfl), Q_HB, Q_HX, Q_H5, Q_HV, Q_HN, fun h0_ => absurd ((hoff 12 (by kernel_rfl)).symm.trans h0_) (by decide), fun h0_ => absurd ((hoff 12 (by kernel_rfl)).symm.trans h0_) (by decide), fun h0_ => absurd ((hoff 13 (by kernel_rfl)).symm.trans h0_) (by decide)⟩
        refine steps_cons ?_ ?_
        · rintro b a w' ⟨gb, m12_, m13_, ha, Q_HB, Q_HX, Q_H5, Q_HV, Q_HN, Q_HGB, Q_X12_, Q_X13_⟩ hb_ hon hoff
          refine ⟨_, rfl, fun K hK => ?_⟩
          have e60 : a.tmps[60]? = some (.string (a2_0.extract 0 na)) := by rw [ha]; exact putSel_on (e := (8, 60, .string (a2_0.extract 0 na))) 4 rfl rfl (hon 8 (by kernel_rfl)) rfl
          have e62 : a.tmps[62]? = some (.int .i64 a2_1) := by rw [ha]; exact putSel_on (e := (10, 62, .int .i64 a2_1)) 6 rfl rfl (hon 10 (by kernel_rfl)) rfl
          have e58 : a.tmps[58]? = some (.bool true) := by rw [ha]; exact putSel_on (e := (6, 58, .bool true)) 2 rfl rfl (hon 6 (by kernel_rfl)) rfl
          replace ha := Aside0.mk ha
          have HB := Aside0.mk Q_HB
          have HX := Aside0.mk Q_HX
          have H5 := Aside0.mk Q_H5
          have HV := Aside0.mk Q_HV
          have HN := Aside0.mk Q_HN
          refine value_ (w1 := w') (v := .agg #[.string (a2_0.extract 0 na), .int .i64 a2_1, .nilIface]) (wanted_on rfl rfl rfl (e58.trans (by first | rfl | (simp [*]; done)))) rfl ?_ ?_
          · go_simp
            (try simp only [i64_w])
            try rfl
          refine hK.out _ _ ⟨gb, m12_, m13_, (by rw [ha.out]; exact putSel_upk 7 hb_ rfl rfl rfl), Q_HB, Q_HX, Q_H5, Q_HV, Q_HN, fun h0_ => absurd ((hoff 12 (by kernel_rfl)).symm.trans h0_) (by decide), fun h0_ => absurd ((hoff 12 (by kernel_rfl)).symm.trans h0_) (by decide), fun h0_ => absurd ((hoff 13 (by kernel_rfl)).symm.trans h0_) (by decide)⟩
        refine steps_cons ?_ ?_
        · rintro b a w' ⟨gb, m12_, m13_, ha, Q_HB, Q_HX, Q_H5, Q_HV, Q_HN, Q_HGB, Q_X12_, Q_X13_⟩ hb_ hon hoff
          refine ⟨_, rfl, fun K hK => ?_⟩
          have e63 : a.tmps[63]? = some (.agg #[.string (a2_0.extract 0 na), .int .i64 a2_1, .nilIface]) := by rw [ha]; exact putSel_on (e := (11, 63, .agg #[.string (a2_0.extract 0 na), .int .i64 a2_1, .nilIface])) 7 rfl rfl (hon 11 (by kernel_rfl)) rfl
          have e58 : a.tmps[58]? = some (.bool true) := by rw [ha]; exact putSel_on (e := (6, 58, .bool true)) 2 rfl rfl (hon 6 (by kernel_rfl)) rfl
          replace ha := Aside0.mk ha
          have HB := Aside0.mk Q_HB
          have HX := Aside0.mk Q_HX
          have H5 := Aside0.mk Q_H5
          have HV := Aside0.mk Q_HV
          have HN := Aside0.mk Q_HN
          refine value_ (w1 := w'.alloc (.cells #[.string (a2_0.extract 0 na), .int .i64 a2_1, .nilIface] 39)) (v := .pointer (some ⟨w'.heap.size, 0, none⟩)) (wanted_on rfl rfl rfl (e58.trans (by first | rfl | (simp [*]; done)))) rfl ?_ ?_
          · go_simp
            try rfl
          refine hK.out _ _ ⟨w'.heap.size, (.pointer (some ⟨w'.heap.size, 0, none⟩)), m13_, (by rw [ha.out]; exact putSel_upk 8 hb_ rfl rfl rfl), below_step HB.out (below_alloc (Below.refl _ _) (.cells #[.string (a2_0.extract 0 na), .int .i64 a2_1, .nilIface] 39)), blk_below HX.out (below_alloc (Below.refl _ _) (.cells #[.string (a2_0.extract 0 na), .int .i64 a2_1, .nilIface] 39)), blk_below H5.out (below_alloc (Below.refl _ _) (.cells #[.string (a2_0.extract 0 na), .int .i64 a2_1, .nilIface] 39)), (fun he_ hb_ => ErV.below hb_ he_) (HV.out) ((below_alloc (Below.refl _ _) (.cells #[.string (a2_0.extract 0 na), .int .i64 a2_1, .nilIface] 39))), (fun he_ hb_ => NodeV.below hb_ he_) (HN.out) ((below_alloc (Below.refl _ _) (.cells #[.string (a2_0.extract 0 na), .int .i64 a2_1, .nilIface] 39))), fun h0_ => heap_alloc_new w' (.cells #[.string (a2_0.extract 0 na), .int .i64 a2_1, .nilIface] 39), fun _ => rfl, fun h0_ => absurd ((hoff 13 (by kernel_rfl)).symm.trans h0_) (by decide)⟩
        refine steps_cons ?_ ?_
        · rintro b a w' ⟨gb, m12_, m13_, ha, Q_HB, Q_HX, Q_H5, Q_HV, Q_HN, Q_HGB, Q_X12_, Q_X13_⟩ hb_ hon hoff
          refine ⟨_, rfl, fun K hK => ?_⟩
          have e64 : a.tmps[64]? = some (m12_) := by rw [ha]; exact putSel_on (e := (12, 64, m12_)) 8 rfl rfl (hon 12 (by kernel_rfl)) rfl
          rw [Q_X12_ (hon 12 (by kernel_rfl))] at e64
          have e58 : a.tmps[58]? = some (.bool true) := by rw [ha]; exact putSel_on (e := (6, 58, .bool true)) 2 rfl rfl (hon 6 (by kernel_rfl)) rfl
          replace ha := Aside0.mk ha
          have HB := Aside0.mk Q_HB
          have HX := Aside0.mk Q_HX
          have H5 := Aside0.mk Q_H5
          have HV := Aside0.mk Q_HV
          have HN := Aside0.mk Q_HN
          have HGB := Aside0.mk (Q_HGB (hon 12 (by kernel_rfl)))
          refine value_ (w1 := w') (v := .iface 37 (.pointer (some ⟨gb, 0, none⟩))) (wanted_on rfl rfl rfl (e58.trans (by first | rfl | (simp [*]; done)))) rfl ?_ ?_
          · go_simp
            (try simp only [i64_w])
            try rfl
          refine hK.out _ _ ⟨gb, m12_, (.iface 37 (.pointer (some ⟨gb, 0, none⟩))), (by rw [ha.out]; exact putSel_upk 9 hb_ rfl rfl rfl), Q_HB, Q_HX, Q_H5, Q_HV, Q_HN, Q_HGB, Q_X12_, fun _ => rfl⟩
        refine steps_cons ?_ ?_
        · rintro b a w' ⟨gb, m12_, m13_, ha, Q_HB, Q_HX, Q_H5, Q_HV, Q_HN, Q_HGB, Q_X12_, Q_X13_⟩ hb_ hon hoff
          refine ⟨_, rfl, fun K hK => ?_⟩
          have e59 : a.tmps[59]? = some (.iface vt vx) := by rw [ha]; exact putSel_on (e := (7, 59, .iface vt vx)) 3 rfl rfl (hon 7 (by kernel_rfl)) rfl
          have e65 : a.tmps[65]? = some (m13_) := by rw [ha]; exact putSel_on (e := (13, 65, m13_)) 9 rfl rfl (hon 13 (by kernel_rfl)) rfl
          rw [Q_X13_ (hon 13 (by kernel_rfl))] at e65
          have e58 : a.tmps[58]? = some (.bool true) := by rw [ha]; exact putSel_on (e := (6, 58, .bool true)) 2 rfl rfl (hon 6 (by kernel_rfl)) rfl
          replace ha := Aside0.mk ha
          have HB := Aside0.mk Q_HB
          have HX := Aside0.mk Q_HX
          have H5 := Aside0.mk Q_H5
          have HV := Aside0.mk Q_HV
          have HN := Aside0.mk Q_HN
          have HGB := Aside0.mk (Q_HGB (hon 12 (by kernel_rfl)))
          refine goes_ Tryd.func13 (by kernel_rfl) rfl #[.iface vt vx, .iface 37 (.pointer (some ⟨gb, 0, none⟩))] (wanted_on rfl rfl rfl (e58.trans (by first | rfl | (simp [*]; done)))) rfl rfl (by first | (simp only [List.map_toArray, List.map_cons, List.map_nil, Act.eval, Array.getD_eq_getD_getElem?, Option.getD_some, e59, e65, e58]; done) | (simp only [List.map_toArray, List.map_cons, List.map_nil, Act.eval, Array.getD_eq_getD_getElem?, Option.getD_some, e59, e65, e58]; rfl)) ?_
          refine (HF3.out _ gb HV.out HGB.out).mono ?_
          rintro e_ wN ⟨rfl, hbw_⟩
          refine ⟨_, rfl, ?_⟩
          refine hK.out _ _ ⟨gb, m12_, m13_, (by rw [ha.out]; exact putSel_upk 10 hb_ rfl rfl rfl), below_step HB.out hbw_, blk_below HX.out hbw_, blk_below H5.out hbw_, (fun he_ hb_ => ErV.below hb_ he_) (HV.out) (hbw_), (fun he_ hb_ => NodeV.below hb_ he_) (HN.out) (hbw_), fun _ => blk_below HGB.out hbw_, Q_X12_, Q_X13_⟩
        refine steps_cons ?_ ?_
        · rintro b a w' ⟨gb, m12_, m13_, ha, Q_HB, Q_HX, Q_H5, Q_HV, Q_HN, Q_HGB, Q_X12_, Q_X13_⟩ hb_ hon hoff
          refine ⟨_, rfl, fun K hK => ?_⟩
          have e8 : a.tmps[8]? = some (.pointer (some ⟨g8, 0, none⟩)) := by rw [ha]; exact (putSel_off rfl).trans rfl
          have e58 : a.tmps[58]? = some (.bool true) := by rw [ha]; exact putSel_on (e := (6, 58, .bool true)) 2 rfl rfl (hon 6 (by kernel_rfl)) rfl
          replace ha := Aside0.mk ha
          have HB := Aside0.mk Q_HB
          have HX := Aside0.mk Q_HX
          have H5 := Aside0.mk Q_H5
          have HV := Aside0.mk Q_HV
          have HN := Aside0.mk Q_HN
          have hq0_ := (blk_cell HX.out 0).trans rfl
          have hq1_ := (blk_cell HX.out 1).trans rfl
          have hq2_ := (blk_cell HX.out 2).trans rfl
          have hq3_ := (blk_cell HX.out 3).trans rfl
          have hq4_ := (blk_cell HX.out 4).trans rfl
          refine value_ (w1 := w') (v := .agg #[.int .i64 k, .int .i64 ta, .int .i64 n, .string op, .slice sA sn sc]) (wanted_on rfl rfl rfl (e58.trans (by first | rfl | (simp [*]; done)))) rfl ?_ ?_
          · go_simp
            (try simp only [i64_w])
            try rfl
          refine hK.out _ _ ⟨gb, m12_, m13_, (by rw [ha.out]; exact putSel_upk 11 hb_ rfl rfl rfl), Q_HB, Q_HX, Q_H5, Q_HV, Q_HN, Q_HGB, Q_X12_, Q_X13_⟩
        refine steps_cons ?_ ?_
        · rintro b a w' ⟨gb, m12_, m13_, ha, Q_HB, Q_HX, Q_H5, Q_HV, Q_HN, Q_HGB, Q_X12_, Q_X13_⟩ hb_ hon hoff
          refine ⟨_, rfl, fun K hK => ?_⟩
          have e13 : a.tmps[13]? = some (.string (a2_0.extract 0 na)) := by rw [ha]; exact (putSel_off rfl).trans rfl
          have e58 : a.tmps[58]? = some (.bool true) := by rw [ha]; exact putSel_on (e := (6, 58, .bool true)) 2 rfl rfl (hon 6 (by kernel_rfl)) rfl
          replace ha := Aside0.mk ha
          have HB := Aside0.mk Q_HB
          have HX := Aside0.mk Q_HX
          have H5 := Aside0.mk Q_H5
          have HV := Aside0.mk Q_HV
          have HN := Aside0.mk Q_HN
          refine value_ (w1 := w') (v := .string (a2_0.extract 0 na)) (wanted_on rfl rfl rfl (e58.trans (by first | rfl | (simp [*]; done)))) rfl ?_ ?_
          · go_simp
            (try simp only [i64_w])
            try rfl
          refine hK.out _ _ ⟨gb, m12_, m13_, (by rw [ha.out]; exact putSel_upk 12 hb_ rfl rfl rfl), Q_HB, Q_HX, Q_H5, Q_HV, Q_HN, Q_HGB, Q_X12_, Q_X13_⟩
        refine steps_cons ?_ ?_
        · rintro b a w' ⟨gb, m12_, m13_, ha, Q_HB, Q_HX, Q_H5, Q_HV, Q_HN, Q_HGB, Q_X12_, Q_X13_⟩ hb_ hon hoff
          refine ⟨_, rfl, fun K hK => ?_⟩
          have e5 : a.tmps[5]? = some (.pointer (some ⟨w.heap.size, 0, none⟩)) := by rw [ha]; exact (putSel_off rfl).trans rfl
          have e58 : a.tmps[58]? = some (.bool true) := by rw [ha]; exact putSel_on (e := (6, 58, .bool true)) 2 rfl rfl (hon 6 (by kernel_rfl)) rfl
          replace ha := Aside0.mk ha
          have HB := Aside0.mk Q_HB
          have HX := Aside0.mk Q_HX
          have H5 := Aside0.mk Q_H5
          have HV := Aside0.mk Q_HV
          have HN := Aside0.mk Q_HN
          refine value_ (w1 := w') (v := .pointer (some ⟨w.heap.size, 1, none⟩)) (wanted_on rfl rfl rfl (e58.trans (by first | rfl | (simp [*]; done)))) rfl ?_ ?_
          · go_simp
            (try simp only [i64_w])
            try rfl
          refine hK.out _ _ ⟨gb, m12_, m13_, (by rw [ha.out]; exact putSel_upk 13 hb_ rfl rfl rfl), Q_HB, Q_HX, Q_H5, Q_HV, Q_HN, Q_HGB, Q_X12_, Q_X13_⟩
        refine steps_cons ?_ ?_
        · rintro b a w' ⟨gb, m12_, m13_, ha, Q_HB, Q_HX, Q_H5, Q_HV, Q_HN, Q_HGB, Q_X12_, Q_X13_⟩ hb_ hon hoff
          refine ⟨_, rfl, fun K hK => ?_⟩
          have e69 : a.tmps[69]? = some (.pointer (some ⟨w.heap.size, 1, none⟩)) := by rw [ha]; exact putSel_on (e := (17, 69, .pointer (some ⟨w.heap.size, 1, none⟩))) 13 rfl rfl (hon 17 (by kernel_rfl)) rfl
          have e58 : a.tmps[58]? = some (.bool true) := by rw [ha]; exact putSel_on (e := (6, 58, .bool true)) 2 rfl rfl (hon 6 (by kernel_rfl)) rfl
          replace ha := Aside0.mk ha
          have HB := Aside0.mk Q_HB
          have HX := Aside0.mk Q_HX
          have H5 := Aside0.mk Q_H5
          have HV := Aside0.mk Q_HV
          have HN := Aside0.mk Q_HN
          have hx_ := (blk_cell H5.out 1).trans rfl
          refine value_ (w1 := w') (v := .int .i64 a2_1) (wanted_on rfl rfl rfl (e58.trans (by first | rfl | (simp [*]; done)))) rfl ?_ ?_
          · go_simp
            (try simp only [i64_w])
            try rfl
          refine hK.out _ _ ⟨gb, m12_, m13_, (by rw [ha.out]; exact putSel_upk 14 hb_ rfl rfl rfl), Q_HB, Q_HX, Q_H5, Q_HV, Q_HN, Q_HGB, Q_X12_, Q_X13_⟩
        refine steps_cons ?_ ?_
        · rintro b a w' ⟨gb, m12_, m13_, ha, Q_HB, Q_HX, Q_H5, Q_HV, Q_HN, Q_HGB, Q_X12_, Q_X13_⟩ hb_ hon hoff
          refine ⟨_, rfl, fun K hK => ?_⟩
          have e67 : a.tmps[67]? = some (.agg #[.int .i64 k, .int .i64 ta, .int .i64 n, .string op, .slice sA sn sc]) := by rw [ha]; exact putSel_on (e := (15, 67, .agg #[.int .i64 k, .int .i64 ta, .int .i64 n, .string op, .slice sA sn sc])) 11 rfl rfl (hon 15 (by kernel_rfl)) rfl
          have e68 : a.tmps[68]? = some (.string (a2_0.extract 0 na)) := by rw [ha]; exact putSel_on (e := (16, 68, .string (a2_0.extract 0 na))) 12 rfl rfl (hon 16 (by kernel_rfl)) rfl
          have e70 : a.tmps[70]? = some (.int .i64 a2_1) := by rw [ha]; exact putSel_on (e := (18, 70, .int .i64 a2_1)) 14 rfl rfl (hon 18 (by kernel_rfl)) rfl
          have e58 : a.tmps[58]? = some (.bool true) := by rw [ha]; exact putSel_on (e := (6, 58, .bool true)) 2 rfl rfl (hon 6 (by kernel_rfl)) rfl
          replace ha := Aside0.mk ha
          have HB := Aside0.mk Q_HB
          have HX := Aside0.mk Q_HX
          have H5 := Aside0.mk Q_H5
          have HV := Aside0.mk Q_HV
          have HN := Aside0.mk Q_HN
          have HGB := Aside0.mk (Q_HGB (hon 12 (by kernel_rfl)))
          refine goes_ Tryd.func14 (by kernel_rfl) rfl #[.agg #[.int .i64 k, .int .i64 ta, .int .i64 n, .string op, .slice sA sn sc], .string (a2_0.extract 0 na), .int .i64 a2_1] (wanted_on rfl rfl rfl (e58.trans (by first | rfl | (simp [*]; done)))) rfl rfl (by first | (simp only [List.map_toArray, List.map_cons, List.map_nil, Act.eval, Array.getD_eq_getD_getElem?, Option.getD_some, e67, e68, e70, e58]; done) | (simp only [List.map_toArray, List.map_cons, List.map_nil, Act.eval, Array.getD_eq_getD_getElem?, Option.getD_some, e67, e68, e70, e58]; rfl)) ?_
          refine (HH3.out _ HN.out).mono ?_
          rintro e_ wN ⟨rfl, hbw_⟩
          refine ⟨_, rfl, ?_⟩
          refine hK.out _ _ ⟨gb, m12_, m13_, (by rw [ha.out]; exact putSel_upk 15 hb_ rfl rfl rfl), below_step HB.out hbw_, blk_below HX.out hbw_, blk_below H5.out hbw_, (fun he_ hb_ => ErV.below hb_ he_) (HV.out) (hbw_), (fun he_ hb_ => NodeV.below hb_ he_) (HN.out) (hbw_), fun _ => blk_below HGB.out hbw_, Q_X12_, Q_X13_⟩
        refine steps_cons ?_ ?_
        · rintro b a w' ⟨gb, m12_, m13_, ha, Q_HB, Q_HX, Q_H5, Q_HV, Q_HN, Q_HGB, Q_X12_, Q_X13_⟩ hb_ hon hoff
          refine ⟨_, rfl, fun K hK => ?_⟩
          have e66 : a.tmps[66]? = some (.bool q2) := by rw [ha]; exact putSel_on (e := (14, 66, .bool q2)) 10 rfl rfl (hon 14 (by kernel_rfl)) rfl
          have e71 : a.tmps[71]? = some (.bool q2) := by rw [ha]; exact putSel_on (e := (19, 71, .bool q2)) 15 rfl rfl (hon 19 (by kernel_rfl)) rfl
          have e58 : a.tmps[58]? = some (.bool true) := by rw [ha]; exact putSel_on (e := (6, 58, .bool true)) 2 rfl rfl (hon 6 (by kernel_rfl)) rfl
          replace ha := Aside0.mk ha
          have HB := Aside0.mk Q_HB
          have HX := Aside0.mk Q_HX
          have H5 := Aside0.mk Q_H5
          have HV := Aside0.mk Q_HV
          have HN := Aside0.mk Q_HN
          have HGB := Aside0.mk (Q_HGB (hon 12 (by kernel_rfl)))
          refine value_ (w1 := w') (v := .bool true) (wanted_on rfl rfl rfl (e58.trans (by first | rfl | (simp [*]; done)))) rfl ?_ ?_
          · go_simp
            (try simp only [i64_w])
            try rfl
          refine hK.out _ _ ⟨gb, m12_, m13_, (by rw [ha.out]; exact putSel_upk 16 hb_ rfl rfl rfl), Q_HB, Q_HX, Q_H5, Q_HV, Q_HN, Q_HGB, Q_X12_, Q_X13_⟩
        refine steps_cons ?_ ?_
        · rintro b a w' ⟨gb, m12_, m13_, ha, Q_HB, Q_HX, Q_H5, Q_HV, Q_HN, Q_HGB, Q_X12_, Q_X13_⟩ hb_ hon hoff
          refine ⟨_, rfl, fun K hK => ?_⟩
          have e58 : a.tmps[58]? = some (.bool true) := by rw [ha]; exact putSel_on (e := (6, 58, .bool true)) 2 rfl rfl (hon 6 (by kernel_rfl)) rfl
          have e72 : a.tmps[72]? = some (.bool true) := by rw [ha]; exact putSel_on (e := (20, 72, .bool true)) 16 rfl rfl (hon 20 (by kernel_rfl)) rfl
          replace ha := Aside0.mk ha
          have HB := Aside0.mk Q_HB
          have HX := Aside0.mk Q_HX
          have H5 := Aside0.mk Q_H5
          have HV := Aside0.mk Q_HV
          have HN := Aside0.mk Q_HN
          have HGB := Aside0.mk (Q_HGB (hon 12 (by kernel_rfl)))
          refine value_ (w1 := w') (v := .bool true) (by rfl) rfl ?_ ?_
          · go_simp
            (try simp only [i64_w])
            try rfl
          refine hK.out _ _ ⟨gb, m12_, m13_, (by rw [ha.out]; exact putSel_upk 17 hb_ rfl rfl rfl), Q_HB, Q_HX, Q_H5, Q_HV, Q_HN, Q_HGB, Q_X12_, Q_X13_⟩
        refine steps_cons ?_ ?_
        · rintro b a w' ⟨gb, m12_, m13_, ha, Q_HB, Q_HX, Q_H5, Q_HV, Q_HN, Q_HGB, Q_X12_, Q_X13_⟩ hb_ hon hoff
          refine ⟨_, rfl, fun K hK => ?_⟩
          have e73 : a.tmps[73]? = some (.bool true) := by rw [ha]; exact putSel_on (e := (21, 73, .bool true)) 17 rfl rfl (hon 21 (by kernel_rfl)) rfl
          replace ha := Aside0.mk ha
          have HB := Aside0.mk Q_HB
          have HX := Aside0.mk Q_HX
          have H5 := Aside0.mk Q_H5
          have HV := Aside0.mk Q_HV
          have HN := Aside0.mk Q_HN
          have HGB := Aside0.mk (Q_HGB (hon 12 (by kernel_rfl)))
          refine value_ (w1 := w') (v := .bool true) (by rfl) rfl ?_ ?_
          · go_simp
            (try simp only [i64_w])
            try rfl
          refine hK.out _ _ ⟨gb, m12_, m13_, (by rw [ha.out]; exact putSel_upk 18 hb_ rfl rfl rfl), Q_HB, Q_HX, Q_H5, Q_HV, Q_HN, Q_HGB, Q_X12_, Q_X13_⟩
        exact steps_nil
      rintro b a wl hall ⟨gb, m12_, m13_, ha, Q_HB, Q_HX, Q_H5, Q_HV, Q_HN, Q_HGB, Q_X12_, Q_X13_⟩
      clear H5 HB HN HV HX
      have hb3_ := hall 3 (by kernel_rfl)
      have hb5_ := hall 5 (by kernel_rfl)
      have hb6_ := hall 6 (by kernel_rfl)
      have hb7_ := hall 7 (by kernel_rfl)
      have hb8_ := hall 8 (by kernel_rfl)
      have hb9_ := hall 9 (by kernel_rfl)
      have hb10_ := hall 10 (by kernel_rfl)
      have hb11_ := hall 11 (by kernel_rfl)
      have hb12_ := hall 12 (by kernel_rfl)
      have hb13_ := hall 13 (by kernel_rfl)
      have hb14_ := hall 14 (by kernel_rfl)
      have hb15_ := hall 15 (by kernel_rfl)
      have hb16_ := hall 16 (by kernel_rfl)
      have hb17_ := hall 17 (by kernel_rfl)
      have hb18_ := hall 18 (by kernel_rfl)
      have hb19_ := hall 19 (by kernel_rfl)
      have hb20_ := hall 20 (by kernel_rfl)
      have hb21_ := hall 21 (by kernel_rfl)
      have hb22_ := hall 22 (by kernel_rfl)
      subst ha
      obtain rfl := Q_X12_ hb12_
      obtain rfl := Q_X13_ hb13_
      simp only [putSel, hb3_, hb5_, hb6_, hb7_, hb8_, hb9_, hb10_, hb11_, hb12_, hb13_, hb14_, hb15_, hb16_, hb17_, hb18_, hb19_, hb20_, hb21_, hb22_, if_true, Act.put, List.setIfInBounds_toArray, List.set_cons_zero, List.set_cons_succ]
      have HB := Aside0.mk Q_HB
      clear Q_HB
      have HX := Aside0.mk Q_HX
      clear Q_HX
      have H5 := Aside0.mk Q_H5
      clear Q_H5
      have HV := Aside0.mk Q_HV
      clear Q_HV
      have HN := Aside0.mk Q_HN
      clear Q_HN
      have HGB := Aside0.mk (Q_HGB hb12_)
      clear Q_HGB
      clear hall hb3_ hb5_ hb6_ hb7_ hb8_ hb9_ hb10_ hb11_ hb12_ hb13_ hb14_ hb15_ hb16_ hb17_ hb18_ hb19_ hb20_ hb21_ hb22_
      go_wp2
      go_ret
      exact ⟨by first | rfl | simp, HB.out⟩


end Go.Proofs.YtegcaniikdibdaaDoor.VFaultIs
