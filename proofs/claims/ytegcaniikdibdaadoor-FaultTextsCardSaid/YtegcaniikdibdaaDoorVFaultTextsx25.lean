/- Contracts of functions of this seat: each call comes to what its Lean function computes; no condition beyond what each theorem states. Printed by a program of this session's own laid over the kit's printer. -/
import Derived.Test.YtegcaniikdibdaaDoorVFaultTextsx0
import Derived.Test.YtegcaniikdibdaaDoorVFaultTextsx1
import Derived.Test.YtegcaniikdibdaaDoorVFaultTextsx4
import Derived.Test.YtegcaniikdibdaaDoorVFaultTextsx5
import Derived.Test.YtegcaniikdibdaaDoorVFaultTextsx10
import Derived.Test.YtegcaniikdibdaaDoorVFaultTextsx12
import Derived.Test.YtegcaniikdibdaaDoorVFaultTextsx14
import Derived.Test.YtegcaniikdibdaaDoorVFaultTextsx15
import Derived.Test.YtegcaniikdibdaaDoorVFaultTextsx17
import Derived.Test.YtegcaniikdibdaaDoorVFaultTextsx18
import Derived.Test.YtegcaniikdibdaaDoorVFaultTextsx21
import Derived.Test.YtegcaniikdibdaaDoorVFaultTextsx22
import Derived.Test.YtegcaniikdibdaaDoorVFaultTextsx23
import Derived.Test.YtegcaniikdibdaaDoorVFaultTextsx24
namespace Go.Proofs.YtegcaniikdibdaaDoor.VFaultTexts
open Go.RowKit Go.Proofs.YtegcaniikdibdaaDoorW.PrintWords Go.Proofs.YtegcaniikdibdaaDoorW.PrintLast Go.Proofs.YtegcaniikdibdaaDoorW.PrintMore
attribute [local go_sem] max2_int min2_int max_two min_two max_three min_three max_four min_four   -- for this text's walks alone
set_option linter.unusedVariables false
set_option linter.unusedSimpArgs false

-- @GIVEN posthorselaw02_FaultTexts
/-! ### posthorselaw02_FaultTexts: by hand -/
theorem twoT_fold (l : List StepS) : ∀ (e : Er), e.two → (l.foldl stepE e).two := by
  induction l with
  | nil => intro e h; exact h
  | cons s l ih =>
    intro e h
    rw [List.foldl_cons]
    refine ih _ ?_
    unfold stepE
    split
    · exact ⟨rfl, h⟩
    · exact h
theorem szT_fold (l : List StepS) : ∀ (e : Er), (l.foldl stepE e).sz ≤ e.sz + 2 * l.length := by
  induction l with
  | nil => intro e; simp
  | cons s l ih =>
    intro e
    rw [List.foldl_cons]
    have h1 := ih (stepE e s)
    have h2 : (stepE e s).sz ≤ e.sz + 2 := by
      unfold stepE
      split <;> simp [Er.sz]
    simp only [List.length_cons]
    omega
theorem madeT_sz (n : Int) (l : List StepS) : (madeE n l).sz ≤ 1000 := by
  unfold madeE
  have h1 := szT_fold (l.take 10) (.num (nM n))
  have h2 := List.length_take_le 10 l
  simp only [Er.sz] at h1
  omega
theorem grownT_far {B : Nat} {a w w' : World} {g : Nat} (h : Below B a w) (hg : w.grownBy w' (some g)) (hB : B ≤ w.heap.size) (hr : B ≤ g) : Below B a w' := h.grown hg hB (fun k e => by have := Option.some.inj e; omega)
theorem first_nums : ∀ e : Er, e.nums[0]? = some e.first
  | .num _ => rfl
  | .wrap _ _ e => first_nums e
  | .many e l => by
    show (e.nums ++ l)[0]? = some e.first
    rw [List.getElem?_append_left e.nums_pos]
    exact first_nums e
def stepOk (kk : Nat) (s : StepS) : Bool := s.f3 || (decide (posthorseref02_Digits.f kk s.f1 = some ⟨(Lib.itoa s.f1).toArray⟩) && decide (-9223372036854775808 ≤ s.f1) && decide (s.f1 ≤ 9223372036854775807))
theorem fine_fold (kk : Nat) (l : List StepS) : ∀ (e : Er), l.all (stepOk kk) = true → e.fine → e.digs kk → (l.foldl stepE e).fine ∧ (l.foldl stepE e).digs kk := by
  induction l with
  | nil => intro e _ h1 h2; exact ⟨h1, h2⟩
  | cons s l ih =>
    intro e h h1 h2
    rw [List.all_cons, Bool.and_eq_true] at h
    rw [List.foldl_cons]
    by_cases hf : s.f3 = true
    · have h3 : stepE e s = .many e [nM s.f2] := by unfold stepE; rw [if_pos hf]
      rw [h3]
      exact ih _ h.2 ⟨⟨_, rfl, nM_lim _⟩, h1⟩ h2
    · have h3 : stepE e s = .wrap (cutO s.f0) s.f1 e := by unfold stepE; rw [if_neg hf]
      have h4 := h.1
      unfold stepOk at h4
      simp only [hf, Bool.false_or, Bool.and_eq_true, decide_eq_true_eq] at h4
      rw [h3]
      exact ih _ h.2 ⟨by unfold cutO; rw [ByteArray.size_extract]; omega, ⟨h4.1.2, h4.2⟩, h1⟩ ⟨h4.1.1, h2⟩
theorem StrRow.to0 {w : World} {B : Nat} {sv : Value} {xs : List ByteArray} (h : StrRow w B sv xs) : StrRow w 0 sv xs := by
  refine ⟨⟨h.1.1, ?_⟩, h.2⟩
  rcases h.1.2 with h0 | ⟨g, c, cur, h0, _, h2⟩
  · exact .inl h0
  · exact .inr ⟨g, c, cur, h0, Nat.zero_le _, h2⟩
theorem textT_calls (E : Er) (vt : TypeId) (vx : Value) (w : World) (hf : E.fine) (hs : E.sz ≤ 1000) (hL : Laid w) (h : ErV w (.iface vt vx) E) : Calls Tryd.prog 17 #[.iface vt vx] w fun r w' => r = .returned (.string E.text) ∧ Below w.heap.size w w' := eTextT vt vx _ w (text_tree E _ w hf hs hL h)
theorem numsT_calls (B : Nat) (E : Er) (k a n : Int) (op : ByteArray) (sl : Value) (w : World) (h2 : E.two) (hs : E.sz ≤ 1000) (h : NodeV w B k a n op sl E) : Calls Tryd.prog 12 #[.agg #[.int .i64 k, .int .i64 a, .int .i64 n, .string op, sl]] w fun r w' => ∃ g c, r = .returned (.slice (some ⟨g, 0, none⟩) E.nums.length c) ∧ w'.cell? ⟨g, 0, none⟩ = some (.int .i64 E.first) ∧ Below w.heap.size w w' := by
  refine (numbers_tree B E k a n op sl w h2 hs h).mono ?_
  rintro r w' ⟨sv, rfl, ho, hb⟩
  obtain ⟨g, c, rfl, _, _, _, hc⟩ := row_open ho E.nums_pos
  exact ⟨g, c, rfl, hc 0 _ (by rw [List.getElem?_map, first_nums]; rfl), hb⟩
def ft.T4 : Bool × List (List Nat × List Nat) := (true, [([], []), ([0], [0]), ([], []), ([2, 1], [2]), ([1, 3, 0, 1], [1]), ([3, 4, 0, 1, 2, 3, 4], [3])])
def ft.B4 : List Nat := [0, 1, 0, 7, 15, 31]
theorem ft.tab4 : rtab .any (opsOf Tryd.f4 4) = ft.T4 := by kernel_rfl
theorem ft.bits4 : waitsOk ft.T4.2 ft.B4 = true := by kernel_rfl
def ft.T5 : Bool × List (List Nat × List Nat) := (true, [([], []), ([0], [0]), ([1], [1]), ([2], [2]), ([3, 2, 2], [2, 3]), ([2], [2]), ([5, 4, 2], [2, 5]), ([4, 6, 2], [2, 4, 6]), ([2, 7], [2, 7]), ([8, 6], [8]), ([9], [9]), ([10, 9, 9], [9, 10]), ([9], [9]), ([12, 11, 9], [9, 12]), ([13, 9], [9, 13]), ([14, 9], [9, 14]), ([11, 15, 9], [9, 11, 15]), ([9, 16], [9, 16]), ([17, 13], [17]), ([18], [18]), ([19, 18], [18, 19]), ([18], [18]), ([21, 18], [18, 21]), ([20, 22, 18], [18, 20, 22]), ([18, 23], [18, 23])])
def ft.B5 : List Nat := [0, 1, 3, 7, 15, 7, 63, 127, 255, 511, 1023, 2047, 1023, 8191, 16383, 32767, 65535, 131071, 262143, 524287, 1048575, 524287, 2621439, 8388607, 16777215]
theorem ft.tab5 : rtab .any (opsOf Tryd.f4 5) = ft.T5 := by kernel_rfl
theorem ft.bits5 : waitsOk ft.T5.2 ft.B5 = true := by kernel_rfl
def ft.T10 : Bool × List (List Nat × List Nat) := (true, [([], []), ([], []), ([0, 1], [0, 1]), ([2], [2]), ([], []), ([], []), ([4, 5], [4, 5]), ([6], [6]), ([3, 7], [3, 7])])
def ft.B10 : List Nat := [0, 0, 3, 7, 0, 0, 48, 112, 255]
theorem ft.tab10 : rtab .any (opsOf Tryd.f4 10) = ft.T10 := by kernel_rfl
theorem ft.bits10 : waitsOk ft.T10.2 ft.B10 = true := by kernel_rfl
def posthorselaw02_FaultTexts.f (k : Nat) (_ : Int) (l : List StepS) : Option Bool := if (l.take 10).all (stepOk k) = true then some true else none
set_option maxHeartbeats 8000000 in
set_option maxRecDepth 100000 in
theorem posthorselaw02_FaultTexts.calls (kk : Nat) (a0 : Int) (A1 : Option Addr) (c1 : Nat) (l1 : List StepS) (r : Bool) (w : World) (hL_ : Laid w) (hr1 : Kd.C k24 w A1 l1.length l1) (hc1 : l1.length ≤ c1) (h : posthorselaw02_FaultTexts.f kk a0 l1 = some r) :
    Calls Tryd.prog 4 #[.int .i64 a0, .slice A1 l1.length c1] w fun e w' => e = .returned (.bool r) ∧ Below w.heap.size w w' := by
  have HL_ := Aside0.mk hL_
  clear hL_
  unfold posthorselaw02_FaultTexts.f at h
  by_cases hall : (l1.take 10).all (stepOk kk) = true
  case neg => rw [if_neg hall] at h; cases h
  rw [if_pos hall] at h
  obtain rfl := Option.some.inj h
  have HR := Aside0.mk hr1
  have HSP := Aside0.mk (show posthorselaw02_speaks.f = some true from rfl)
  have H2 := Aside0.mk (show (madeE a0 l1).two from twoT_fold _ _ trivial)
  have HZ := Aside0.mk (madeT_sz a0 l1)
  have HF := Aside0.mk (show (madeE a0 l1).fine ∧ (madeE a0 l1).digs kk from fine_fold kk _ _ hall (nM_lim _) trivial)
  obtain ⟨E, hE⟩ : ∃ E, E = madeE a0 l1 := ⟨_, rfl⟩
  have HE := Aside0.mk hE
  rw [← hE] at H2 HZ HF
  clear h hr1 hc1 hE hall
  go_enter Tryd.func4, Tryd.ntmps4
  go_upto_region 4 with (first
    | (go_at_call 10; (with_reducible refine (posthorselaw02_speaks.calls true _ HL_.out HSP.out).mono ?_); rintro e w1 ⟨rfl, hb1⟩; have HB1 := Aside0.mk hb1; have HR1 := Aside0.mk (Kd.C_below HR.out hb1); clear hb1)
    | (go_at_call 11; go_loud (refine (made_calls a0 l1 A1 c1 _ HR1.out).mono ?_; rw [← HE.out]; rintro e w2 ⟨v, k, ta, n, op, sl, rfl, hv2, hn2, hb2⟩; obtain ⟨sA, sn, sc, rfl⟩ := hn2.slice; obtain ⟨vt, vx, rfl⟩ := hv2.iface; have HV2 := Aside0.mk hv2; have HN2 := Aside0.mk hn2; have HB2 := Aside0.mk (below_step HB1.out hb2); clear hv2 hn2 hb2 HB1))
    | ((with_reducible refine gate_dst (N := 6) rfl ?_); refine box_event ?hg (N := 6) ?hd (cs := #[.int .i64 0, .int .i64 0, .int .i64 0, .string ⟨#[]⟩, .slice none 0 0]) (t := 30) ?hr ?_; (case hd => rfl); (case hg => rfl); (case hr => first | (go_simp; done) | (go_simp; rfl)); intro g6 hg6 w6 hbox hb; have HG6 := Aside0.mk (show w2.heap.size ≤ g6 by rw [hg6]; exact Nat.le_refl _); have HX6 := Aside0.mk hbox; have HB26 := Aside0.mk hb; have hq0 := (blk_cell hbox 0).trans rfl; have hq1 := (blk_cell hbox 1).trans rfl; have hq2 := (blk_cell hbox 2).trans rfl; have hq3 := (blk_cell hbox 3).trans rfl; have hq4 := (blk_cell hbox 4).trans rfl; have hf0 := blk_frozen hbox 0; have hf1 := blk_frozen hbox 1; have hf2 := blk_frozen hbox 2; have hf3 := blk_frozen hbox 3; have hf4 := blk_frozen hbox 4; clear hg6 hbox hb))
  clear hq0 hq1 hq2 hq3 hq4 hf0 hf1 hf2 hf3 hf4
  obtain ⟨w8, hw8⟩ : ∃ w8, w8 = put5 w6 g6 (.int .i64 k) (.int .i64 ta) (.int .i64 n) (.string op) (.slice sA sn sc) := ⟨_, rfl⟩
  have hg8 := put5_gr w6 g6 (.int .i64 k) (.int .i64 ta) (.int .i64 n) (.string op) (.slice sA sn sc)
  have hx8 := put5_blk (a' := .int .i64 k) (b' := .int .i64 ta) (c' := .int .i64 n) (d' := .string op) (e' := .slice sA sn sc) HX6.out
  rw [← hw8] at hg8 hx8
  have hb28 := grownT_far HB26.out hg8 HB26.out.size HG6.out
  have HX := Aside0.mk hx8
  have HB := Aside0.mk (below_step HB2.out hb28)
  have HV := Aside0.mk (HV2.out.below hb28)
  have HN := Aside0.mk (HN2.out.below hb28)
  unfold put5 at hw8
  rw [← hw8]
  clear hw8 hg8 hx8 hb28 HX6 HB26 HV2 HN2 HB2 HG6
  refine start_ (n := 6) (S := fun w' => True) (ds := []) #[false, false, false, false, false, false] (by kernel_rfl) rfl rfl trivial (fun hHeld => ?_)
  refine with_tabW ft.tab4 ft.bits4 (fun HT_ HW_ => ?_)
  have n1_ := Aside0.mk (blk_drew HX.out); have n3_ := Aside0.mk (HV.out.below (Below.refl _ _).drew); have n4_ := Aside0.mk (HN.out.below (Below.refl _ _).drew); have n6_ := Aside0.mk HB.out.drew; clear HX HV HN HB; have HX := n1_; have HV := n3_; have HN := n4_; have HB := n6_; clear n1_ n3_ n4_ n6_; generalize w8.drew = wd at HX HV HN HB ⊢
  refine pure_ (i := 0) (N := some 18) (v := ?_) (a' := ?_) #[true, false, false, false, false, false] rfl rfl (any_of HT_.out (by kernel_rfl)) (fun _ _ _ h => h) (Or.inl ⟨by rfl, ?_⟩) ?_ ?_
  rotate_left
  · intro w'
    go_simp
    with_reducible rfl
  rotate_left
  · simp only [Act.put, List.setIfInBounds_toArray, List.set_cons_zero, List.set_cons_succ, i64_w, i32_w]
    rfl
  refine inv_at [1, 2, 3, 4, 5] (fun a0_ b a w' => ∃ (s1 : Value) (s2 : Value) (m4_ : Value) (m5_ : Value), a = putSel a0_ b [(1, 19, s1), (2, 20, .agg #[.int .i64 k, .int .i64 ta, .int .i64 n, .string op, .slice sA sn sc]), (3, 21, s2), (4, 7, m4_), (5, 8, m5_)] ∧ (Below w.heap.size w w') ∧ (w'.heap[g6]? = some (.cells #[.int .i64 k, .int .i64 ta, .int .i64 n, .string op, .slice sA sn sc] 30 (0, 0))) ∧ (ErV w' (.iface vt vx) E) ∧ (NodeV w' w1.heap.size k ta n op (.slice sA sn sc) E) ∧ (b 1 = true → StrRow w' 0 s1 E.ops) ∧ (b 3 = true → StrRow w' 0 s2 E.ops) ∧ (b 4 = true → (m4_ : Value) = s1) ∧ (b 5 = true → (m5_ : Value) = s2)) HT_.out HW_.out (by kernel_rfl) (by kernel_rfl) ?_ ?_ ?_
  · exact ⟨.slice none 0 0, .slice none 0 0, .bool false, .bool false, by simp only [putSel, Bool.false_eq_true, if_false], HB.out, HX.out, HV.out, HN.out, fun h_ => absurd h_ (by decide), fun h_ => absurd h_ (by decide), fun h_ => absurd h_ (by decide), fun h_ => absurd h_ (by decide)⟩
  · skip
    clear HB HN HV HX
    refine steps_cons ?_ ?_
    · rintro b a w' ⟨s1, s2, m4_, m5_, ha, Q_HB, Q_HX, Q_HV, Q_HN, Q_HS1, Q_HS2, Q_X4_, Q_X5_⟩ hb_ hon hoff
      refine ⟨_, rfl, fun K hK => ?_⟩
      have e18 : a.tmps[18]? = some (.iface vt vx) := by rw [ha]; exact (putSel_off rfl).trans rfl
      replace ha := Aside0.mk ha
      have HB := Aside0.mk Q_HB
      have HX := Aside0.mk Q_HX
      have HV := Aside0.mk Q_HV
      have HN := Aside0.mk Q_HN
      refine goes_ Tryd.func15 (by kernel_rfl) rfl #[.iface vt vx] (by rfl) rfl rfl (by first | (simp only [List.map_toArray, List.map_cons, List.map_nil, Act.eval, Array.getD_eq_getD_getElem?, Option.getD_some, e18]; done) | (simp only [List.map_toArray, List.map_cons, List.map_nil, Act.eval, Array.getD_eq_getD_getElem?, Option.getD_some, e18]; rfl)) ?_
      refine (ops_tree E _ _ H2.out HZ.out HV.out).mono ?_
      rintro e_ wN ⟨sv_, rfl, hr_, hbw_⟩
      refine ⟨_, rfl, ?_⟩
      refine hK.out _ _ ⟨sv_, s2, m4_, m5_, (by rw [ha.out]; exact putSel_upk 0 hb_ rfl rfl rfl), below_step HB.out hbw_, blk_below HX.out hbw_, (fun he_ hb_ => ErV.below hb_ he_) (HV.out) (hbw_), (fun he_ hb_ => NodeV.below hb_ he_) (HN.out) (hbw_), fun h0_ => hr_.to0, fun h0_ => absurd ((hoff 3 (by kernel_rfl)).symm.trans h0_) (by decide), fun h0_ => absurd ((hoff 4 (by kernel_rfl)).symm.trans h0_) (by decide), fun h0_ => absurd ((hoff 5 (by kernel_rfl)).symm.trans h0_) (by decide)⟩
    refine steps_cons ?_ ?_
    · rintro b a w' ⟨s1, s2, m4_, m5_, ha, Q_HB, Q_HX, Q_HV, Q_HN, Q_HS1, Q_HS2, Q_X4_, Q_X5_⟩ hb_ hon hoff
      refine ⟨_, rfl, fun K hK => ?_⟩
      have e6 : a.tmps[6]? = some (.pointer (some ⟨g6, 0, none⟩)) := by rw [ha]; exact (putSel_off rfl).trans rfl
      replace ha := Aside0.mk ha
      have HB := Aside0.mk Q_HB
      have HX := Aside0.mk Q_HX
      have HV := Aside0.mk Q_HV
      have HN := Aside0.mk Q_HN
      have hq0_ := (blk_cell HX.out 0).trans rfl
      have hq1_ := (blk_cell HX.out 1).trans rfl
      have hq2_ := (blk_cell HX.out 2).trans rfl
      have hq3_ := (blk_cell HX.out 3).trans rfl
      have hq4_ := (blk_cell HX.out 4).trans rfl
      refine value_ (w1 := w') (v := .agg #[.int .i64 k, .int .i64 ta, .int .i64 n, .string op, .slice sA sn sc]) (by rfl) rfl ?_ ?_
      · go_simp
        (try simp only [i64_w])
        try rfl
      refine hK.out _ _ ⟨s1, s2, m4_, m5_, (by rw [ha.out]; exact putSel_upk 1 hb_ rfl rfl rfl), Q_HB, Q_HX, Q_HV, Q_HN, Q_HS1, fun h0_ => absurd ((hoff 3 (by kernel_rfl)).symm.trans h0_) (by decide), fun h0_ => absurd ((hoff 4 (by kernel_rfl)).symm.trans h0_) (by decide), fun h0_ => absurd ((hoff 5 (by kernel_rfl)).symm.trans h0_) (by decide)⟩
    refine steps_cons ?_ ?_
    · rintro b a w' ⟨s1, s2, m4_, m5_, ha, Q_HB, Q_HX, Q_HV, Q_HN, Q_HS1, Q_HS2, Q_X4_, Q_X5_⟩ hb_ hon hoff
      refine ⟨_, rfl, fun K hK => ?_⟩
      have e20 : a.tmps[20]? = some (.agg #[.int .i64 k, .int .i64 ta, .int .i64 n, .string op, .slice sA sn sc]) := by rw [ha]; exact putSel_on (e := (2, 20, .agg #[.int .i64 k, .int .i64 ta, .int .i64 n, .string op, .slice sA sn sc])) 1 rfl rfl (hon 2 (by kernel_rfl)) rfl
      replace ha := Aside0.mk ha
      have HB := Aside0.mk Q_HB
      have HX := Aside0.mk Q_HX
      have HV := Aside0.mk Q_HV
      have HN := Aside0.mk Q_HN
      have HS1 := Aside0.mk (Q_HS1 (hon 1 (by kernel_rfl)))
      refine goes_ Tryd.func16 (by kernel_rfl) rfl #[.agg #[.int .i64 k, .int .i64 ta, .int .i64 n, .string op, .slice sA sn sc]] (by rfl) rfl rfl (by first | (simp only [List.map_toArray, List.map_cons, List.map_nil, Act.eval, Array.getD_eq_getD_getElem?, Option.getD_some, e20]; done) | (simp only [List.map_toArray, List.map_cons, List.map_nil, Act.eval, Array.getD_eq_getD_getElem?, Option.getD_some, e20]; rfl)) ?_
      refine (refops_tree _ E _ _ _ _ _ _ H2.out HZ.out HN.out).mono ?_
      rintro e_ wN ⟨sv_, rfl, hr_, hbw_⟩
      refine ⟨_, rfl, ?_⟩
      refine hK.out _ _ ⟨s1, sv_, m4_, m5_, (by rw [ha.out]; exact putSel_upk 2 hb_ rfl rfl rfl), below_step HB.out hbw_, blk_below HX.out hbw_, (fun he_ hb_ => ErV.below hb_ he_) (HV.out) (hbw_), (fun he_ hb_ => NodeV.below hb_ he_) (HN.out) (hbw_), fun _ => StrRow.below (HS1.out) (hbw_), fun h0_ => hr_.to0, fun h0_ => absurd ((hoff 4 (by kernel_rfl)).symm.trans h0_) (by decide), fun h0_ => absurd ((hoff 5 (by kernel_rfl)).symm.trans h0_) (by decide)⟩
    refine steps_cons ?_ ?_
    · rintro b a w' ⟨s1, s2, m4_, m5_, ha, Q_HB, Q_HX, Q_HV, Q_HN, Q_HS1, Q_HS2, Q_X4_, Q_X5_⟩ hb_ hon hoff
      refine ⟨_, rfl, fun K hK => ?_⟩
      have e19 : a.tmps[19]? = some (s1) := by rw [ha]; exact putSel_on (e := (1, 19, s1)) 0 rfl rfl (hon 1 (by kernel_rfl)) rfl
      replace ha := Aside0.mk ha
      have HB := Aside0.mk Q_HB
      have HX := Aside0.mk Q_HX
      have HV := Aside0.mk Q_HV
      have HN := Aside0.mk Q_HN
      have HS1 := Aside0.mk (Q_HS1 (hon 1 (by kernel_rfl)))
      have HS2 := Aside0.mk (Q_HS2 (hon 3 (by kernel_rfl)))
      refine value_ (w1 := w') (v := s1) (by rfl) rfl ?_ ?_
      · go_simp
        (try simp only [i64_w])
        try rfl
      refine hK.out _ _ ⟨s1, s2, (s1), m5_, (by rw [ha.out]; exact putSel_upk 3 hb_ rfl rfl rfl), Q_HB, Q_HX, Q_HV, Q_HN, Q_HS1, Q_HS2, fun _ => rfl, fun h0_ => absurd ((hoff 5 (by kernel_rfl)).symm.trans h0_) (by decide)⟩
    refine steps_cons ?_ ?_
    · rintro b a w' ⟨s1, s2, m4_, m5_, ha, Q_HB, Q_HX, Q_HV, Q_HN, Q_HS1, Q_HS2, Q_X4_, Q_X5_⟩ hb_ hon hoff
      refine ⟨_, rfl, fun K hK => ?_⟩
      have e21 : a.tmps[21]? = some (s2) := by rw [ha]; exact putSel_on (e := (3, 21, s2)) 2 rfl rfl (hon 3 (by kernel_rfl)) rfl
      replace ha := Aside0.mk ha
      have HB := Aside0.mk Q_HB
      have HX := Aside0.mk Q_HX
      have HV := Aside0.mk Q_HV
      have HN := Aside0.mk Q_HN
      have HS1 := Aside0.mk (Q_HS1 (hon 1 (by kernel_rfl)))
      have HS2 := Aside0.mk (Q_HS2 (hon 3 (by kernel_rfl)))
      refine value_ (w1 := w') (v := s2) (by rfl) rfl ?_ ?_
      · go_simp
        (try simp only [i64_w])
        try rfl
      refine hK.out _ _ ⟨s1, s2, m4_, (s2), (by rw [ha.out]; exact putSel_upk 4 hb_ rfl rfl rfl), Q_HB, Q_HX, Q_HV, Q_HN, Q_HS1, Q_HS2, Q_X4_, fun _ => rfl⟩
    exact steps_nil
  rintro b a w9 hall ⟨s1, s2, m4_, m5_, ha, Q_HB, Q_HX, Q_HV, Q_HN, Q_HS1, Q_HS2, Q_X4_, Q_X5_⟩
  clear HB HN HV HX
  have hb1_ := hall 1 (by kernel_rfl)
  have hb2_ := hall 2 (by kernel_rfl)
  have hb3_ := hall 3 (by kernel_rfl)
  have hb4_ := hall 4 (by kernel_rfl)
  have hb5_ := hall 5 (by kernel_rfl)
  subst ha
  obtain rfl := Q_X4_ hb4_
  obtain rfl := Q_X5_ hb5_
  simp only [putSel, hb1_, hb2_, hb3_, hb4_, hb5_, if_true, Act.put, List.setIfInBounds_toArray, List.set_cons_zero, List.set_cons_succ]
  have HB := Aside0.mk Q_HB
  clear Q_HB
  have HX := Aside0.mk Q_HX
  clear Q_HX
  have HV := Aside0.mk Q_HV
  clear Q_HV
  have HN := Aside0.mk Q_HN
  clear Q_HN
  have HS1 := Aside0.mk (Q_HS1 hb1_)
  clear Q_HS1
  have HS2 := Aside0.mk (Q_HS2 hb3_)
  clear Q_HS2
  clear hall hb1_ hb2_ hb3_ hb4_ hb5_
  have HOZ := Aside0.mk (Nat.le_trans E.ops_sz HZ.out)
  obtain ⟨sA1, sc1, hs1⟩ := own_slice HS1.out.1
  obtain ⟨sA2, sc2, hs2⟩ := own_slice HS2.out.1
  subst hs1 hs2
  have HO1 := Aside0.mk HS1.out.1
  have HO2 := Aside0.mk HS2.out.1
  have HT1 := Aside0.mk (fun (W : World) (hL : Laid W) (hv : ErV W (.iface vt vx) E) => textT_calls E vt vx W HF.out.1 HZ.out hL hv)
  have HT2 := Aside0.mk (fun (W : World) (hv : NodeV W w1.heap.size k ta n op (.slice sA sn sc) E) => reftext_tree kk w1.heap.size E k ta n op (.slice sA sn sc) W HF.out.1 HF.out.2 HZ.out hv)
  have HT3 := Aside0.mk (fun (W : World) (hL : Laid W) (hv : ErV W (.iface vt vx) E) => eNumber E (.iface vt vx) W hL hv)
  have HT4 := Aside0.mk (fun (W : World) (hv : NodeV W w1.heap.size k ta n op (.slice sA sn sc) E) => numsT_calls w1.heap.size E k ta n op (.slice sA sn sc) W H2.out HZ.out hv)
  have HNP := Aside0.mk E.nums_pos
  clear HS1 HS2 H2 HZ HF
  generalize E.ops = xs at *
  generalize E.text = tx at *
  generalize E.first = fi at *
  generalize E.nums.length = NN at *
  have hnp := HNP.out
  have hp1 := eq_true (show (0 : Int) < (NN : Int) by omega)
  have hp2 := eq_true hnp
  have hp3 : decide ((0 : Int) < (NN : Int)) = true := decide_eq_true (by omega)
  go_upto_region 5 with (fail)
  refine start_ (n := 25) (S := fun w' => True) (ds := []) #[false, false, false, false, false, false, false, false, false, false, false, false, false, false, false, false, false, false, false, false, false, false, false, false, false] (by kernel_rfl) rfl rfl trivial (fun hHeld => ?_)
  refine with_tabW ft.tab5 ft.bits5 (fun HT_ HW_ => ?_)
  have n1_ := Aside0.mk (blk_drew HX.out); have n3_ := Aside0.mk (HV.out.below (Below.refl _ _).drew); have n4_ := Aside0.mk (HN.out.below (Below.refl _ _).drew); have n6_ := Aside0.mk HB.out.drew; have n7_ := Aside0.mk (pw_own_below HO1.out (Below.refl _ _).drew); have n8_ := Aside0.mk (pw_own_below HO2.out (Below.refl _ _).drew); clear HX HV HN HB HO1 HO2; have HX := n1_; have HV := n3_; have HN := n4_; have HB := n6_; have HO1 := n7_; have HO2 := n8_; clear n1_ n3_ n4_ n6_ n7_ n8_; generalize w9.drew = wd at HX HV HN HB HO1 HO2 ⊢
  refine pure_ (i := 0) (N := some 22) (v := ?_) (a' := ?_) #[true, false, false, false, false, false, false, false, false, false, false, false, false, false, false, false, false, false, false, false, false, false, false, false, false] rfl rfl (any_of HT_.out (by kernel_rfl)) (fun _ _ _ h => h) (Or.inl ⟨by rfl, ?_⟩) ?_ ?_
  rotate_left
  · intro w'
    go_simp
    with_reducible rfl
  rotate_left
  · simp only [Act.put, List.setIfInBounds_toArray, List.set_cons_zero, List.set_cons_succ, i64_w, i32_w]
    rfl
  refine pure_ (i := 1) (N := some 23) (v := ?_) (a' := ?_) #[true, true, false, false, false, false, false, false, false, false, false, false, false, false, false, false, false, false, false, false, false, false, false, false, false] rfl rfl (any_of HT_.out (by kernel_rfl)) (fun _ _ _ h => h) (Or.inl ⟨by rfl, ?_⟩) ?_ ?_
  rotate_left
  · intro w'
    go_simp
    with_reducible rfl
  rotate_left
  · simp only [Act.put, List.setIfInBounds_toArray, List.set_cons_zero, List.set_cons_succ, i64_w, i32_w]
    rfl
  refine pure_ (i := 2) (N := some 24) (v := ?_) (a' := ?_) #[true, true, true, false, false, false, false, false, false, false, false, false, false, false, false, false, false, false, false, false, false, false, false, false, false] rfl rfl (any_of HT_.out (by kernel_rfl)) (fun _ _ _ h => h) (Or.inl ⟨by rfl, ?_⟩) ?_ ?_
  rotate_left
  · intro w'
    go_simp
    with_reducible rfl
  rotate_left
  · simp only [Act.put, List.setIfInBounds_toArray, List.set_cons_zero, List.set_cons_succ, i64_w, i32_w]
    rfl
  refine inv_at [3, 4, 5, 6, 7, 8, 9, 10, 11, 12, 13, 14, 15, 16, 17, 18, 19, 20, 21, 22, 23, 24] (fun a0_ b a w' => ∃ (gn : Nat) (cn : Nat) (m13_ : Value) (m14_ : Value), a = putSel a0_ b [(3, 25, .iface vt vx), (4, 26, .string tx), (5, 27, .agg #[.int .i64 k, .int .i64 ta, .int .i64 n, .string op, .slice sA sn sc]), (6, 28, .string tx), (7, 29, .bool false), (8, 30, .bool false), (9, 31, .bool false), (10, 32, .iface vt vx), (11, 33, .int .i64 fi), (12, 34, .agg #[.int .i64 k, .int .i64 ta, .int .i64 n, .string op, .slice sA sn sc]), (13, 35, m13_), (14, 36, m14_), (15, 37, .int .i64 fi), (16, 38, .bool false), (17, 39, .bool false), (18, 40, .bool false), (19, 41, .slice sA1 xs.length sc1), (20, 42, .int .i64 (xs.length : Int)), (21, 43, .slice sA2 xs.length sc2), (22, 44, .int .i64 (xs.length : Int)), (23, 45, .bool false), (24, 46, .bool false)] ∧ (Below w.heap.size w w') ∧ (w'.heap[g6]? = some (.cells #[.int .i64 k, .int .i64 ta, .int .i64 n, .string op, .slice sA sn sc] 30 (0, 0))) ∧ (ErV w' (.iface vt vx) E) ∧ (NodeV w' w1.heap.size k ta n op (.slice sA sn sc) E) ∧ (w'.ownsRow 0 9 1 (.slice sA1 xs.length sc1) xs.length (xs.map .string)) ∧ (w'.ownsRow 0 9 1 (.slice sA2 xs.length sc2) xs.length (xs.map .string)) ∧ (b 13 = true → w'.cell? ⟨gn, 0, none⟩ = some (.int .i64 fi)) ∧ (b 13 = true → (m13_ : Value) = .slice (some ⟨gn, 0, none⟩) NN cn) ∧ (b 14 = true → (m14_ : Value) = .pointer (some ⟨gn, 0, none⟩))) HT_.out HW_.out (by kernel_rfl) (by kernel_rfl) ?_ ?_ ?_
  · exact ⟨0, 0, .bool false, .bool false, by simp only [putSel, Bool.false_eq_true, if_false], HB.out, HX.out, HV.out, HN.out, HO1.out, HO2.out, fun h_ => absurd h_ (by decide), fun h_ => absurd h_ (by decide), fun h_ => absurd h_ (by decide)⟩
  · skip
    clear HB HN HO1 HO2 HV HX
    refine steps_cons ?_ ?_
    · rintro b a w' ⟨gn, cn, m13_, m14_, ha, Q_HB, Q_HX, Q_HV, Q_HN, Q_HO1, Q_HO2, Q_HC, Q_X13_, Q_X14_⟩ hb_ hon hoff
      refine ⟨_, rfl, fun K hK => ?_⟩
      have e5 : a.tmps[5]? = some (.iface vt vx) := by rw [ha]; exact (putSel_off rfl).trans rfl
      have e24 : a.tmps[24]? = some (.bool false) := by rw [ha]; exact (putSel_off rfl).trans rfl
      replace ha := Aside0.mk ha
      have HB := Aside0.mk Q_HB
      have HX := Aside0.mk Q_HX
      have HV := Aside0.mk Q_HV
      have HN := Aside0.mk Q_HN
      have HO1 := Aside0.mk Q_HO1
      have HO2 := Aside0.mk Q_HO2
      refine value_ (w1 := w') (v := .iface vt vx) (wanted_on rfl rfl rfl (e24.trans (by first | rfl | (simp [*]; done)))) rfl ?_ ?_
      · go_simp
        (try simp only [i64_w])
        try rfl
      refine hK.out _ _ ⟨gn, cn, m13_, m14_, (by rw [ha.out]; exact putSel_upk 0 hb_ rfl rfl rfl), Q_HB, Q_HX, Q_HV, Q_HN, Q_HO1, Q_HO2, fun h0_ => absurd ((hoff 13 (by kernel_rfl)).symm.trans h0_) (by decide), fun h0_ => absurd ((hoff 13 (by kernel_rfl)).symm.trans h0_) (by decide), fun h0_ => absurd ((hoff 14 (by kernel_rfl)).symm.trans h0_) (by decide)⟩
    refine steps_cons ?_ ?_
    · rintro b a w' ⟨gn, cn, m13_, m14_, ha, Q_HB, Q_HX, Q_HV, Q_HN, Q_HO1, Q_HO2, Q_HC, Q_X13_, Q_X14_⟩ hb_ hon hoff
      refine ⟨_, rfl, fun K hK => ?_⟩
      have e25 : a.tmps[25]? = some (.iface vt vx) := by rw [ha]; exact putSel_on (e := (3, 25, .iface vt vx)) 0 rfl rfl (hon 3 (by kernel_rfl)) rfl
      have e24 : a.tmps[24]? = some (.bool false) := by rw [ha]; exact (putSel_off rfl).trans rfl
      replace ha := Aside0.mk ha
      have HB := Aside0.mk Q_HB
      have HX := Aside0.mk Q_HX
      have HV := Aside0.mk Q_HV
      have HN := Aside0.mk Q_HN
      have HO1 := Aside0.mk Q_HO1
      have HO2 := Aside0.mk Q_HO2
      refine goes_ Tryd.func17 (by kernel_rfl) rfl #[.iface vt vx] (wanted_on rfl rfl rfl (e24.trans (by first | rfl | (simp [*]; done)))) rfl rfl (by first | (simp only [List.map_toArray, List.map_cons, List.map_nil, Act.eval, Array.getD_eq_getD_getElem?, Option.getD_some, e25, e24]; done) | (simp only [List.map_toArray, List.map_cons, List.map_nil, Act.eval, Array.getD_eq_getD_getElem?, Option.getD_some, e25, e24]; rfl)) ?_
      refine (HT1.out _ (Laid.below HL_.out HB.out) HV.out).mono ?_
      rintro e_ wN ⟨rfl, hbw_⟩
      refine ⟨_, rfl, ?_⟩
      refine hK.out _ _ ⟨gn, cn, m13_, m14_, (by rw [ha.out]; exact putSel_upk 1 hb_ rfl rfl rfl), below_step HB.out hbw_, blk_below HX.out hbw_, (fun he_ hb_ => ErV.below hb_ he_) (HV.out) (hbw_), (fun he_ hb_ => NodeV.below hb_ he_) (HN.out) (hbw_), pw_own_below (HO1.out) (hbw_), pw_own_below (HO2.out) (hbw_), fun h0_ => absurd ((hoff 13 (by kernel_rfl)).symm.trans h0_) (by decide), fun h0_ => absurd ((hoff 13 (by kernel_rfl)).symm.trans h0_) (by decide), fun h0_ => absurd ((hoff 14 (by kernel_rfl)).symm.trans h0_) (by decide)⟩
    refine steps_cons ?_ ?_
    · rintro b a w' ⟨gn, cn, m13_, m14_, ha, Q_HB, Q_HX, Q_HV, Q_HN, Q_HO1, Q_HO2, Q_HC, Q_X13_, Q_X14_⟩ hb_ hon hoff
      refine ⟨_, rfl, fun K hK => ?_⟩
      have e6 : a.tmps[6]? = some (.pointer (some ⟨g6, 0, none⟩)) := by rw [ha]; exact (putSel_off rfl).trans rfl
      have e24 : a.tmps[24]? = some (.bool false) := by rw [ha]; exact (putSel_off rfl).trans rfl
      replace ha := Aside0.mk ha
      have HB := Aside0.mk Q_HB
      have HX := Aside0.mk Q_HX
      have HV := Aside0.mk Q_HV
      have HN := Aside0.mk Q_HN
      have HO1 := Aside0.mk Q_HO1
      have HO2 := Aside0.mk Q_HO2
      have hq0_ := (blk_cell HX.out 0).trans rfl
      have hq1_ := (blk_cell HX.out 1).trans rfl
      have hq2_ := (blk_cell HX.out 2).trans rfl
      have hq3_ := (blk_cell HX.out 3).trans rfl
      have hq4_ := (blk_cell HX.out 4).trans rfl
      refine value_ (w1 := w') (v := .agg #[.int .i64 k, .int .i64 ta, .int .i64 n, .string op, .slice sA sn sc]) (wanted_on rfl rfl rfl (e24.trans (by first | rfl | (simp [*]; done)))) rfl ?_ ?_
      · go_simp
        (try simp only [i64_w])
        try rfl
      refine hK.out _ _ ⟨gn, cn, m13_, m14_, (by rw [ha.out]; exact putSel_upk 2 hb_ rfl rfl rfl), Q_HB, Q_HX, Q_HV, Q_HN, Q_HO1, Q_HO2, fun h0_ => absurd ((hoff 13 (by kernel_rfl)).symm.trans h0_) (by decide), fun h0_ => absurd ((hoff 13 (by kernel_rfl)).symm.trans h0_) (by decide), fun h0_ => absurd ((hoff 14 (by kernel_rfl)).symm.trans h0_) (by decide)⟩
    refine steps_cons ?_ ?_
    · rintro b a w' ⟨gn, cn, m13_, m14_, ha, Q_HB, Q_HX, Q_HV, Q_HN, Q_HO1, Q_HO2, Q_HC, Q_X13_, Q_X14_⟩ hb_ hon hoff
      refine ⟨_, rfl, fun K hK => ?_⟩
      have e27 : a.tmps[27]? = some (.agg #[.int .i64 k, .int .i64 ta, .int .i64 n, .string op, .slice sA sn sc]) := by rw [ha]; exact putSel_on (e := (5, 27, .agg #[.int .i64 k, .int .i64 ta, .int .i64 n, .string op, .slice sA sn sc])) 2 rfl rfl (hon 5 (by kernel_rfl)) rfl
      have e24 : a.tmps[24]? = some (.bool false) := by rw [ha]; exact (putSel_off rfl).trans rfl
      replace ha := Aside0.mk ha
      have HB := Aside0.mk Q_HB
      have HX := Aside0.mk Q_HX
      have HV := Aside0.mk Q_HV
      have HN := Aside0.mk Q_HN
      have HO1 := Aside0.mk Q_HO1
      have HO2 := Aside0.mk Q_HO2
      refine goes_ Tryd.func18 (by kernel_rfl) rfl #[.agg #[.int .i64 k, .int .i64 ta, .int .i64 n, .string op, .slice sA sn sc]] (wanted_on rfl rfl rfl (e24.trans (by first | rfl | (simp [*]; done)))) rfl rfl (by first | (simp only [List.map_toArray, List.map_cons, List.map_nil, Act.eval, Array.getD_eq_getD_getElem?, Option.getD_some, e27, e24]; done) | (simp only [List.map_toArray, List.map_cons, List.map_nil, Act.eval, Array.getD_eq_getD_getElem?, Option.getD_some, e27, e24]; rfl)) ?_
      refine (HT2.out _ HN.out).mono ?_
      rintro e_ wN ⟨rfl, hbw_⟩
      refine ⟨_, rfl, ?_⟩
      refine hK.out _ _ ⟨gn, cn, m13_, m14_, (by rw [ha.out]; exact putSel_upk 3 hb_ rfl rfl rfl), below_step HB.out hbw_, blk_below HX.out hbw_, (fun he_ hb_ => ErV.below hb_ he_) (HV.out) (hbw_), (fun he_ hb_ => NodeV.below hb_ he_) (HN.out) (hbw_), pw_own_below (HO1.out) (hbw_), pw_own_below (HO2.out) (hbw_), fun h0_ => absurd ((hoff 13 (by kernel_rfl)).symm.trans h0_) (by decide), fun h0_ => absurd ((hoff 13 (by kernel_rfl)).symm.trans h0_) (by decide), fun h0_ => absurd ((hoff 14 (by kernel_rfl)).symm.trans h0_) (by decide)⟩
    refine steps_cons ?_ ?_
    · rintro b a w' ⟨gn, cn, m13_, m14_, ha, Q_HB, Q_HX, Q_HV, Q_HN, Q_HO1, Q_HO2, Q_HC, Q_X13_, Q_X14_⟩ hb_ hon hoff
      refine ⟨_, rfl, fun K hK => ?_⟩
      have e26 : a.tmps[26]? = some (.string tx) := by rw [ha]; exact putSel_on (e := (4, 26, .string tx)) 1 rfl rfl (hon 4 (by kernel_rfl)) rfl
      have e28 : a.tmps[28]? = some (.string tx) := by rw [ha]; exact putSel_on (e := (6, 28, .string tx)) 3 rfl rfl (hon 6 (by kernel_rfl)) rfl
      have e24 : a.tmps[24]? = some (.bool false) := by rw [ha]; exact (putSel_off rfl).trans rfl
      replace ha := Aside0.mk ha
      have HB := Aside0.mk Q_HB
      have HX := Aside0.mk Q_HX
      have HV := Aside0.mk Q_HV
      have HN := Aside0.mk Q_HN
      have HO1 := Aside0.mk Q_HO1
      have HO2 := Aside0.mk Q_HO2
      refine value_ (w1 := w') (v := .bool false) (wanted_on rfl rfl rfl (e24.trans (by first | rfl | (simp [*]; done)))) rfl ?_ ?_
      · go_simp
        (try simp only [i64_w])
        try rfl
      refine hK.out _ _ ⟨gn, cn, m13_, m14_, (by rw [ha.out]; exact putSel_upk 4 hb_ rfl rfl rfl), Q_HB, Q_HX, Q_HV, Q_HN, Q_HO1, Q_HO2, fun h0_ => absurd ((hoff 13 (by kernel_rfl)).symm.trans h0_) (by decide), fun h0_ => absurd ((hoff 13 (by kernel_rfl)).symm.trans h0_) (by decide), fun h0_ => absurd ((hoff 14 (by kernel_rfl)).symm.trans h0_) (by decide)⟩
    refine steps_cons ?_ ?_
    · rintro b a w' ⟨gn, cn, m13_, m14_, ha, Q_HB, Q_HX, Q_HV, Q_HN, Q_HO1, Q_HO2, Q_HC, Q_X13_, Q_X14_⟩ hb_ hon hoff
      refine ⟨_, rfl, fun K hK => ?_⟩
      have e24 : a.tmps[24]? = some (.bool false) := by rw [ha]; exact (putSel_off rfl).trans rfl
      have e29 : a.tmps[29]? = some (.bool false) := by rw [ha]; exact putSel_on (e := (7, 29, .bool false)) 4 rfl rfl (hon 7 (by kernel_rfl)) rfl
      replace ha := Aside0.mk ha
      have HB := Aside0.mk Q_HB
      have HX := Aside0.mk Q_HX
      have HV := Aside0.mk Q_HV
      have HN := Aside0.mk Q_HN
      have HO1 := Aside0.mk Q_HO1
      have HO2 := Aside0.mk Q_HO2
      refine value_ (w1 := w') (v := .bool false) (by rfl) rfl ?_ ?_
      · go_simp
        (try simp only [i64_w])
        try rfl
      refine hK.out _ _ ⟨gn, cn, m13_, m14_, (by rw [ha.out]; exact putSel_upk 5 hb_ rfl rfl rfl), Q_HB, Q_HX, Q_HV, Q_HN, Q_HO1, Q_HO2, fun h0_ => absurd ((hoff 13 (by kernel_rfl)).symm.trans h0_) (by decide), fun h0_ => absurd ((hoff 13 (by kernel_rfl)).symm.trans h0_) (by decide), fun h0_ => absurd ((hoff 14 (by kernel_rfl)).symm.trans h0_) (by decide)⟩
    refine steps_cons ?_ ?_
    · rintro b a w' ⟨gn, cn, m13_, m14_, ha, Q_HB, Q_HX, Q_HV, Q_HN, Q_HO1, Q_HO2, Q_HC, Q_X13_, Q_X14_⟩ hb_ hon hoff
      refine ⟨_, rfl, fun K hK => ?_⟩
      have e30 : a.tmps[30]? = some (.bool false) := by rw [ha]; exact putSel_on (e := (8, 30, .bool false)) 5 rfl rfl (hon 8 (by kernel_rfl)) rfl
      replace ha := Aside0.mk ha
      have HB := Aside0.mk Q_HB
      have HX := Aside0.mk Q_HX
      have HV := Aside0.mk Q_HV
      have HN := Aside0.mk Q_HN
      have HO1 := Aside0.mk Q_HO1
      have HO2 := Aside0.mk Q_HO2
      refine value_ (w1 := w') (v := .bool false) (by rfl) rfl ?_ ?_
      · go_simp
        (try simp only [i64_w])
        try rfl
      refine hK.out _ _ ⟨gn, cn, m13_, m14_, (by rw [ha.out]; exact putSel_upk 6 hb_ rfl rfl rfl), Q_HB, Q_HX, Q_HV, Q_HN, Q_HO1, Q_HO2, fun h0_ => absurd ((hoff 13 (by kernel_rfl)).symm.trans h0_) (by decide), fun h0_ => absurd ((hoff 13 (by kernel_rfl)).symm.trans h0_) (by decide), fun h0_ => absurd ((hoff 14 (by kernel_rfl)).symm.trans h0_) (by decide)⟩
    refine steps_cons ?_ ?_
    · rintro b a w' ⟨gn, cn, m13_, m14_, ha, Q_HB, Q_HX, Q_HV, Q_HN, Q_HO1, Q_HO2, Q_HC, Q_X13_, Q_X14_⟩ hb_ hon hoff
      refine ⟨_, rfl, fun K hK => ?_⟩
      have e5 : a.tmps[5]? = some (.iface vt vx) := by rw [ha]; exact (putSel_off rfl).trans rfl
      have e31 : a.tmps[31]? = some (.bool false) := by rw [ha]; exact putSel_on (e := (9, 31, .bool false)) 6 rfl rfl (hon 9 (by kernel_rfl)) rfl
      replace ha := Aside0.mk ha
      have HB := Aside0.mk Q_HB
      have HX := Aside0.mk Q_HX
      have HV := Aside0.mk Q_HV
      have HN := Aside0.mk Q_HN
      have HO1 := Aside0.mk Q_HO1
      have HO2 := Aside0.mk Q_HO2
      refine value_ (w1 := w') (v := .iface vt vx) (wanted_on rfl rfl rfl (e31.trans (by first | rfl | (simp [*]; done)))) rfl ?_ ?_
      · go_simp
        (try simp only [i64_w])
        try rfl
      refine hK.out _ _ ⟨gn, cn, m13_, m14_, (by rw [ha.out]; exact putSel_upk 7 hb_ rfl rfl rfl), Q_HB, Q_HX, Q_HV, Q_HN, Q_HO1, Q_HO2, fun h0_ => absurd ((hoff 13 (by kernel_rfl)).symm.trans h0_) (by decide), fun h0_ => absurd ((hoff 13 (by kernel_rfl)).symm.trans h0_) (by decide), fun h0_ => absurd ((hoff 14 (by kernel_rfl)).symm.trans h0_) (by decide)⟩
    refine steps_cons ?_ ?_
    · rintro b a w' ⟨gn, cn, m13_, m14_, ha, Q_HB, Q_HX, Q_HV, Q_HN, Q_HO1, Q_HO2, Q_HC, Q_X13_, Q_X14_⟩ hb_ hon hoff
      refine ⟨_, rfl, fun K hK => ?_⟩
      have e32 : a.tmps[32]? = some (.iface vt vx) := by rw [ha]; exact putSel_on (e := (10, 32, .iface vt vx)) 7 rfl rfl (hon 10 (by kernel_rfl)) rfl
      have e31 : a.tmps[31]? = some (.bool false) := by rw [ha]; exact putSel_on (e := (9, 31, .bool false)) 6 rfl rfl (hon 9 (by kernel_rfl)) rfl
      replace ha := Aside0.mk ha
      have HB := Aside0.mk Q_HB
      have HX := Aside0.mk Q_HX
      have HV := Aside0.mk Q_HV
      have HN := Aside0.mk Q_HN
      have HO1 := Aside0.mk Q_HO1
      have HO2 := Aside0.mk Q_HO2
      refine goes_ Tryd.func19 (by kernel_rfl) rfl #[.iface vt vx] (wanted_on rfl rfl rfl (e31.trans (by first | rfl | (simp [*]; done)))) rfl rfl (by first | (simp only [List.map_toArray, List.map_cons, List.map_nil, Act.eval, Array.getD_eq_getD_getElem?, Option.getD_some, e32, e31]; done) | (simp only [List.map_toArray, List.map_cons, List.map_nil, Act.eval, Array.getD_eq_getD_getElem?, Option.getD_some, e32, e31]; rfl)) ?_
      refine (HT3.out _ (Laid.below HL_.out HB.out) HV.out).mono ?_
      rintro e_ wN ⟨rfl, hbw_⟩
      refine ⟨_, rfl, ?_⟩
      refine hK.out _ _ ⟨gn, cn, m13_, m14_, (by rw [ha.out]; exact putSel_upk 8 hb_ rfl rfl rfl), below_step HB.out hbw_, blk_below HX.out hbw_, (fun he_ hb_ => ErV.below hb_ he_) (HV.out) (hbw_), (fun he_ hb_ => NodeV.below hb_ he_) (HN.out) (hbw_), pw_own_below (HO1.out) (hbw_), pw_own_below (HO2.out) (hbw_), fun h0_ => absurd ((hoff 13 (by kernel_rfl)).symm.trans h0_) (by decide), fun h0_ => absurd ((hoff 13 (by kernel_rfl)).symm.trans h0_) (by decide), fun h0_ => absurd ((hoff 14 (by kernel_rfl)).symm.trans h0_) (by decide)⟩
    refine steps_cons ?_ ?_
    · rintro b a w' ⟨gn, cn, m13_, m14_, ha, Q_HB, Q_HX, Q_HV, Q_HN, Q_HO1, Q_HO2, Q_HC, Q_X13_, Q_X14_⟩ hb_ hon hoff
      refine ⟨_, rfl, fun K hK => ?_⟩
      have e6 : a.tmps[6]? = some (.pointer (some ⟨g6, 0, none⟩)) := by rw [ha]; exact (putSel_off rfl).trans rfl
      have e31 : a.tmps[31]? = some (.bool false) := by rw [ha]; exact putSel_on (e := (9, 31, .bool false)) 6 rfl rfl (hon 9 (by kernel_rfl)) rfl
      replace ha := Aside0.mk ha
      have HB := Aside0.mk Q_HB
      have HX := Aside0.mk Q_HX
      have HV := Aside0.mk Q_HV
      have HN := Aside0.mk Q_HN
      have HO1 := Aside0.mk Q_HO1
      have HO2 := Aside0.mk Q_HO2
      have hq0_ := (blk_cell HX.out 0).trans rfl
      have hq1_ := (blk_cell HX.out 1).trans rfl
      have hq2_ := (blk_cell HX.out 2).trans rfl
      have hq3_ := (blk_cell HX.out 3).trans rfl
      have hq4_ := (blk_cell HX.out 4).trans rfl
      refine value_ (w1 := w') (v := .agg #[.int .i64 k, .int .i64 ta, .int .i64 n, .string op, .slice sA sn sc]) (wanted_on rfl rfl rfl (e31.trans (by first | rfl | (simp [*]; done)))) rfl ?_ ?_
      · go_simp
        (try simp only [i64_w])
        try rfl
      refine hK.out _ _ ⟨gn, cn, m13_, m14_, (by rw [ha.out]; exact putSel_upk 9 hb_ rfl rfl rfl), Q_HB, Q_HX, Q_HV, Q_HN, Q_HO1, Q_HO2, fun h0_ => absurd ((hoff 13 (by kernel_rfl)).symm.trans h0_) (by decide), fun h0_ => absurd ((hoff 13 (by kernel_rfl)).symm.trans h0_) (by decide), fun h0_ => absurd ((hoff 14 (by kernel_rfl)).symm.trans h0_) (by decide)⟩
    refine steps_cons ?_ ?_
    · rintro b a w' ⟨gn, cn, m13_, m14_, ha, Q_HB, Q_HX, Q_HV, Q_HN, Q_HO1, Q_HO2, Q_HC, Q_X13_, Q_X14_⟩ hb_ hon hoff
      refine ⟨_, rfl, fun K hK => ?_⟩
      have e34 : a.tmps[34]? = some (.agg #[.int .i64 k, .int .i64 ta, .int .i64 n, .string op, .slice sA sn sc]) := by rw [ha]; exact putSel_on (e := (12, 34, .agg #[.int .i64 k, .int .i64 ta, .int .i64 n, .string op, .slice sA sn sc])) 9 rfl rfl (hon 12 (by kernel_rfl)) rfl
      have e31 : a.tmps[31]? = some (.bool false) := by rw [ha]; exact putSel_on (e := (9, 31, .bool false)) 6 rfl rfl (hon 9 (by kernel_rfl)) rfl
      replace ha := Aside0.mk ha
      have HB := Aside0.mk Q_HB
      have HX := Aside0.mk Q_HX
      have HV := Aside0.mk Q_HV
      have HN := Aside0.mk Q_HN
      have HO1 := Aside0.mk Q_HO1
      have HO2 := Aside0.mk Q_HO2
      refine goes_ Tryd.func12 (by kernel_rfl) rfl #[.agg #[.int .i64 k, .int .i64 ta, .int .i64 n, .string op, .slice sA sn sc]] (wanted_on rfl rfl rfl (e31.trans (by first | rfl | (simp [*]; done)))) rfl rfl (by first | (simp only [List.map_toArray, List.map_cons, List.map_nil, Act.eval, Array.getD_eq_getD_getElem?, Option.getD_some, e34, e31]; done) | (simp only [List.map_toArray, List.map_cons, List.map_nil, Act.eval, Array.getD_eq_getD_getElem?, Option.getD_some, e34, e31]; rfl)) ?_
      refine (HT4.out _ HN.out).mono ?_
      rintro e_ wN ⟨gn_, cn_, rfl, hc_, hbw_⟩
      refine ⟨_, rfl, ?_⟩
      refine hK.out _ _ ⟨gn_, cn_, (.slice (some ⟨gn_, 0, none⟩) NN cn_), m14_, (by rw [ha.out]; exact putSel_upk 10 hb_ rfl rfl rfl), below_step HB.out hbw_, blk_below HX.out hbw_, (fun he_ hb_ => ErV.below hb_ he_) (HV.out) (hbw_), (fun he_ hb_ => NodeV.below hb_ he_) (HN.out) (hbw_), pw_own_below (HO1.out) (hbw_), pw_own_below (HO2.out) (hbw_), fun h0_ => hc_, fun _ => rfl, fun h0_ => absurd ((hoff 14 (by kernel_rfl)).symm.trans h0_) (by decide)⟩
    refine steps_cons ?_ ?_
    · rintro b a w' ⟨gn, cn, m13_, m14_, ha, Q_HB, Q_HX, Q_HV, Q_HN, Q_HO1, Q_HO2, Q_HC, Q_X13_, Q_X14_⟩ hb_ hon hoff
      refine ⟨_, rfl, fun K hK => ?_⟩
      have e35 : a.tmps[35]? = some (m13_) := by rw [ha]; exact putSel_on (e := (13, 35, m13_)) 10 rfl rfl (hon 13 (by kernel_rfl)) rfl
      rw [Q_X13_ (hon 13 (by kernel_rfl))] at e35
      have e31 : a.tmps[31]? = some (.bool false) := by rw [ha]; exact putSel_on (e := (9, 31, .bool false)) 6 rfl rfl (hon 9 (by kernel_rfl)) rfl
      replace ha := Aside0.mk ha
      have HB := Aside0.mk Q_HB
      have HX := Aside0.mk Q_HX
      have HV := Aside0.mk Q_HV
      have HN := Aside0.mk Q_HN
      have HO1 := Aside0.mk Q_HO1
      have HO2 := Aside0.mk Q_HO2
      have HC := Aside0.mk (Q_HC (hon 13 (by kernel_rfl)))
      refine value_ (w1 := w') (v := .pointer (some ⟨gn, 0, none⟩)) (wanted_on rfl rfl rfl (e31.trans (by first | rfl | (simp [*]; done)))) rfl ?_ ?_
      · go_simp
        (try simp only [i64_w])
        try rfl
      refine hK.out _ _ ⟨gn, cn, m13_, (.pointer (some ⟨gn, 0, none⟩)), (by rw [ha.out]; exact putSel_upk 11 hb_ rfl rfl rfl), Q_HB, Q_HX, Q_HV, Q_HN, Q_HO1, Q_HO2, Q_HC, Q_X13_, fun _ => rfl⟩
    refine steps_cons ?_ ?_
    · rintro b a w' ⟨gn, cn, m13_, m14_, ha, Q_HB, Q_HX, Q_HV, Q_HN, Q_HO1, Q_HO2, Q_HC, Q_X13_, Q_X14_⟩ hb_ hon hoff
      refine ⟨_, rfl, fun K hK => ?_⟩
      have e36 : a.tmps[36]? = some (m14_) := by rw [ha]; exact putSel_on (e := (14, 36, m14_)) 11 rfl rfl (hon 14 (by kernel_rfl)) rfl
      rw [Q_X14_ (hon 14 (by kernel_rfl))] at e36
      have e31 : a.tmps[31]? = some (.bool false) := by rw [ha]; exact putSel_on (e := (9, 31, .bool false)) 6 rfl rfl (hon 9 (by kernel_rfl)) rfl
      replace ha := Aside0.mk ha
      have HB := Aside0.mk Q_HB
      have HX := Aside0.mk Q_HX
      have HV := Aside0.mk Q_HV
      have HN := Aside0.mk Q_HN
      have HO1 := Aside0.mk Q_HO1
      have HO2 := Aside0.mk Q_HO2
      have HC := Aside0.mk (Q_HC (hon 13 (by kernel_rfl)))
      have hx_ := HC.out
      refine value_ (w1 := w') (v := .int .i64 fi) (wanted_on rfl rfl rfl (e31.trans (by first | rfl | (simp [*]; done)))) rfl ?_ ?_
      · go_simp
        (try simp only [i64_w])
        try rfl
      refine hK.out _ _ ⟨gn, cn, m13_, m14_, (by rw [ha.out]; exact putSel_upk 12 hb_ rfl rfl rfl), Q_HB, Q_HX, Q_HV, Q_HN, Q_HO1, Q_HO2, Q_HC, Q_X13_, Q_X14_⟩
    refine steps_cons ?_ ?_
    · rintro b a w' ⟨gn, cn, m13_, m14_, ha, Q_HB, Q_HX, Q_HV, Q_HN, Q_HO1, Q_HO2, Q_HC, Q_X13_, Q_X14_⟩ hb_ hon hoff
      refine ⟨_, rfl, fun K hK => ?_⟩
      have e33 : a.tmps[33]? = some (.int .i64 fi) := by rw [ha]; exact putSel_on (e := (11, 33, .int .i64 fi)) 8 rfl rfl (hon 11 (by kernel_rfl)) rfl
      have e37 : a.tmps[37]? = some (.int .i64 fi) := by rw [ha]; exact putSel_on (e := (15, 37, .int .i64 fi)) 12 rfl rfl (hon 15 (by kernel_rfl)) rfl
      have e31 : a.tmps[31]? = some (.bool false) := by rw [ha]; exact putSel_on (e := (9, 31, .bool false)) 6 rfl rfl (hon 9 (by kernel_rfl)) rfl
      replace ha := Aside0.mk ha
      have HB := Aside0.mk Q_HB
      have HX := Aside0.mk Q_HX
      have HV := Aside0.mk Q_HV
      have HN := Aside0.mk Q_HN
      have HO1 := Aside0.mk Q_HO1
      have HO2 := Aside0.mk Q_HO2
      have HC := Aside0.mk (Q_HC (hon 13 (by kernel_rfl)))
      refine value_ (w1 := w') (v := .bool false) (wanted_on rfl rfl rfl (e31.trans (by first | rfl | (simp [*]; done)))) rfl ?_ ?_
      · go_simp
        (try simp only [i64_w])
        try rfl
      refine hK.out _ _ ⟨gn, cn, m13_, m14_, (by rw [ha.out]; exact putSel_upk 13 hb_ rfl rfl rfl), Q_HB, Q_HX, Q_HV, Q_HN, Q_HO1, Q_HO2, Q_HC, Q_X13_, Q_X14_⟩
    refine steps_cons ?_ ?_
    · rintro b a w' ⟨gn, cn, m13_, m14_, ha, Q_HB, Q_HX, Q_HV, Q_HN, Q_HO1, Q_HO2, Q_HC, Q_X13_, Q_X14_⟩ hb_ hon hoff
      refine ⟨_, rfl, fun K hK => ?_⟩
      have e31 : a.tmps[31]? = some (.bool false) := by rw [ha]; exact putSel_on (e := (9, 31, .bool false)) 6 rfl rfl (hon 9 (by kernel_rfl)) rfl
      have e38 : a.tmps[38]? = some (.bool false) := by rw [ha]; exact putSel_on (e := (16, 38, .bool false)) 13 rfl rfl (hon 16 (by kernel_rfl)) rfl
      replace ha := Aside0.mk ha
      have HB := Aside0.mk Q_HB
      have HX := Aside0.mk Q_HX
      have HV := Aside0.mk Q_HV
      have HN := Aside0.mk Q_HN
      have HO1 := Aside0.mk Q_HO1
      have HO2 := Aside0.mk Q_HO2
      have HC := Aside0.mk (Q_HC (hon 13 (by kernel_rfl)))
      refine value_ (w1 := w') (v := .bool false) (by rfl) rfl ?_ ?_
      · go_simp
        (try simp only [i64_w])
        try rfl
      refine hK.out _ _ ⟨gn, cn, m13_, m14_, (by rw [ha.out]; exact putSel_upk 14 hb_ rfl rfl rfl), Q_HB, Q_HX, Q_HV, Q_HN, Q_HO1, Q_HO2, Q_HC, Q_X13_, Q_X14_⟩
    refine steps_cons ?_ ?_
    · rintro b a w' ⟨gn, cn, m13_, m14_, ha, Q_HB, Q_HX, Q_HV, Q_HN, Q_HO1, Q_HO2, Q_HC, Q_X13_, Q_X14_⟩ hb_ hon hoff
      refine ⟨_, rfl, fun K hK => ?_⟩
      have e39 : a.tmps[39]? = some (.bool false) := by rw [ha]; exact putSel_on (e := (17, 39, .bool false)) 14 rfl rfl (hon 17 (by kernel_rfl)) rfl
      replace ha := Aside0.mk ha
      have HB := Aside0.mk Q_HB
      have HX := Aside0.mk Q_HX
      have HV := Aside0.mk Q_HV
      have HN := Aside0.mk Q_HN
      have HO1 := Aside0.mk Q_HO1
      have HO2 := Aside0.mk Q_HO2
      have HC := Aside0.mk (Q_HC (hon 13 (by kernel_rfl)))
      refine value_ (w1 := w') (v := .bool false) (by rfl) rfl ?_ ?_
      · go_simp
        (try simp only [i64_w])
        try rfl
      refine hK.out _ _ ⟨gn, cn, m13_, m14_, (by rw [ha.out]; exact putSel_upk 15 hb_ rfl rfl rfl), Q_HB, Q_HX, Q_HV, Q_HN, Q_HO1, Q_HO2, Q_HC, Q_X13_, Q_X14_⟩
    refine steps_cons ?_ ?_
    · rintro b a w' ⟨gn, cn, m13_, m14_, ha, Q_HB, Q_HX, Q_HV, Q_HN, Q_HO1, Q_HO2, Q_HC, Q_X13_, Q_X14_⟩ hb_ hon hoff
      refine ⟨_, rfl, fun K hK => ?_⟩
      have e7 : a.tmps[7]? = some (.slice sA1 xs.length sc1) := by rw [ha]; exact (putSel_off rfl).trans rfl
      have e40 : a.tmps[40]? = some (.bool false) := by rw [ha]; exact putSel_on (e := (18, 40, .bool false)) 15 rfl rfl (hon 18 (by kernel_rfl)) rfl
      replace ha := Aside0.mk ha
      have HB := Aside0.mk Q_HB
      have HX := Aside0.mk Q_HX
      have HV := Aside0.mk Q_HV
      have HN := Aside0.mk Q_HN
      have HO1 := Aside0.mk Q_HO1
      have HO2 := Aside0.mk Q_HO2
      have HC := Aside0.mk (Q_HC (hon 13 (by kernel_rfl)))
      refine value_ (w1 := w') (v := .slice sA1 xs.length sc1) (wanted_on rfl rfl rfl (e40.trans (by first | rfl | (simp [*]; done)))) rfl ?_ ?_
      · go_simp
        (try simp only [i64_w])
        try rfl
      refine hK.out _ _ ⟨gn, cn, m13_, m14_, (by rw [ha.out]; exact putSel_upk 16 hb_ rfl rfl rfl), Q_HB, Q_HX, Q_HV, Q_HN, Q_HO1, Q_HO2, Q_HC, Q_X13_, Q_X14_⟩
    refine steps_cons ?_ ?_
    · rintro b a w' ⟨gn, cn, m13_, m14_, ha, Q_HB, Q_HX, Q_HV, Q_HN, Q_HO1, Q_HO2, Q_HC, Q_X13_, Q_X14_⟩ hb_ hon hoff
      refine ⟨_, rfl, fun K hK => ?_⟩
      have e41 : a.tmps[41]? = some (.slice sA1 xs.length sc1) := by rw [ha]; exact putSel_on (e := (19, 41, .slice sA1 xs.length sc1)) 16 rfl rfl (hon 19 (by kernel_rfl)) rfl
      have e40 : a.tmps[40]? = some (.bool false) := by rw [ha]; exact putSel_on (e := (18, 40, .bool false)) 15 rfl rfl (hon 18 (by kernel_rfl)) rfl
      replace ha := Aside0.mk ha
      have HB := Aside0.mk Q_HB
      have HX := Aside0.mk Q_HX
      have HV := Aside0.mk Q_HV
      have HN := Aside0.mk Q_HN
      have HO1 := Aside0.mk Q_HO1
      have HO2 := Aside0.mk Q_HO2
      have HC := Aside0.mk (Q_HC (hon 13 (by kernel_rfl)))
      refine value_ (w1 := w') (v := .int .i64 (xs.length : Int)) (wanted_on rfl rfl rfl (e40.trans (by first | rfl | (simp [*]; done)))) rfl ?_ ?_
      · go_simp
        (try simp only [i64_w])
        try rfl
      refine hK.out _ _ ⟨gn, cn, m13_, m14_, (by rw [ha.out]; exact putSel_upk 17 hb_ rfl rfl rfl), Q_HB, Q_HX, Q_HV, Q_HN, Q_HO1, Q_HO2, Q_HC, Q_X13_, Q_X14_⟩
    refine steps_cons ?_ ?_
    · rintro b a w' ⟨gn, cn, m13_, m14_, ha, Q_HB, Q_HX, Q_HV, Q_HN, Q_HO1, Q_HO2, Q_HC, Q_X13_, Q_X14_⟩ hb_ hon hoff
      refine ⟨_, rfl, fun K hK => ?_⟩
      have e8 : a.tmps[8]? = some (.slice sA2 xs.length sc2) := by rw [ha]; exact (putSel_off rfl).trans rfl
      have e40 : a.tmps[40]? = some (.bool false) := by rw [ha]; exact putSel_on (e := (18, 40, .bool false)) 15 rfl rfl (hon 18 (by kernel_rfl)) rfl
      replace ha := Aside0.mk ha
      have HB := Aside0.mk Q_HB
      have HX := Aside0.mk Q_HX
      have HV := Aside0.mk Q_HV
      have HN := Aside0.mk Q_HN
      have HO1 := Aside0.mk Q_HO1
      have HO2 := Aside0.mk Q_HO2
      have HC := Aside0.mk (Q_HC (hon 13 (by kernel_rfl)))
      refine value_ (w1 := w') (v := .slice sA2 xs.length sc2) (wanted_on rfl rfl rfl (e40.trans (by first | rfl | (simp [*]; done)))) rfl ?_ ?_
      · go_simp
        (try simp only [i64_w])
        try rfl
      refine hK.out _ _ ⟨gn, cn, m13_, m14_, (by rw [ha.out]; exact putSel_upk 18 hb_ rfl rfl rfl), Q_HB, Q_HX, Q_HV, Q_HN, Q_HO1, Q_HO2, Q_HC, Q_X13_, Q_X14_⟩
    refine steps_cons ?_ ?_
    · rintro b a w' ⟨gn, cn, m13_, m14_, ha, Q_HB, Q_HX, Q_HV, Q_HN, Q_HO1, Q_HO2, Q_HC, Q_X13_, Q_X14_⟩ hb_ hon hoff
      refine ⟨_, rfl, fun K hK => ?_⟩
      have e43 : a.tmps[43]? = some (.slice sA2 xs.length sc2) := by rw [ha]; exact putSel_on (e := (21, 43, .slice sA2 xs.length sc2)) 18 rfl rfl (hon 21 (by kernel_rfl)) rfl
      have e40 : a.tmps[40]? = some (.bool false) := by rw [ha]; exact putSel_on (e := (18, 40, .bool false)) 15 rfl rfl (hon 18 (by kernel_rfl)) rfl
      replace ha := Aside0.mk ha
      have HB := Aside0.mk Q_HB
      have HX := Aside0.mk Q_HX
      have HV := Aside0.mk Q_HV
      have HN := Aside0.mk Q_HN
      have HO1 := Aside0.mk Q_HO1
      have HO2 := Aside0.mk Q_HO2
      have HC := Aside0.mk (Q_HC (hon 13 (by kernel_rfl)))
      refine value_ (w1 := w') (v := .int .i64 (xs.length : Int)) (wanted_on rfl rfl rfl (e40.trans (by first | rfl | (simp [*]; done)))) rfl ?_ ?_
      · go_simp
        (try simp only [i64_w])
        try rfl
      refine hK.out _ _ ⟨gn, cn, m13_, m14_, (by rw [ha.out]; exact putSel_upk 19 hb_ rfl rfl rfl), Q_HB, Q_HX, Q_HV, Q_HN, Q_HO1, Q_HO2, Q_HC, Q_X13_, Q_X14_⟩
    refine steps_cons ?_ ?_
    · rintro b a w' ⟨gn, cn, m13_, m14_, ha, Q_HB, Q_HX, Q_HV, Q_HN, Q_HO1, Q_HO2, Q_HC, Q_X13_, Q_X14_⟩ hb_ hon hoff
      refine ⟨_, rfl, fun K hK => ?_⟩
      have e42 : a.tmps[42]? = some (.int .i64 (xs.length : Int)) := by rw [ha]; exact putSel_on (e := (20, 42, .int .i64 (xs.length : Int))) 17 rfl rfl (hon 20 (by kernel_rfl)) rfl
      have e44 : a.tmps[44]? = some (.int .i64 (xs.length : Int)) := by rw [ha]; exact putSel_on (e := (22, 44, .int .i64 (xs.length : Int))) 19 rfl rfl (hon 22 (by kernel_rfl)) rfl
      have e40 : a.tmps[40]? = some (.bool false) := by rw [ha]; exact putSel_on (e := (18, 40, .bool false)) 15 rfl rfl (hon 18 (by kernel_rfl)) rfl
      replace ha := Aside0.mk ha
      have HB := Aside0.mk Q_HB
      have HX := Aside0.mk Q_HX
      have HV := Aside0.mk Q_HV
      have HN := Aside0.mk Q_HN
      have HO1 := Aside0.mk Q_HO1
      have HO2 := Aside0.mk Q_HO2
      have HC := Aside0.mk (Q_HC (hon 13 (by kernel_rfl)))
      refine value_ (w1 := w') (v := .bool false) (wanted_on rfl rfl rfl (e40.trans (by first | rfl | (simp [*]; done)))) rfl ?_ ?_
      · go_simp
        (try simp only [i64_w])
        try rfl
      refine hK.out _ _ ⟨gn, cn, m13_, m14_, (by rw [ha.out]; exact putSel_upk 20 hb_ rfl rfl rfl), Q_HB, Q_HX, Q_HV, Q_HN, Q_HO1, Q_HO2, Q_HC, Q_X13_, Q_X14_⟩
    refine steps_cons ?_ ?_
    · rintro b a w' ⟨gn, cn, m13_, m14_, ha, Q_HB, Q_HX, Q_HV, Q_HN, Q_HO1, Q_HO2, Q_HC, Q_X13_, Q_X14_⟩ hb_ hon hoff
      refine ⟨_, rfl, fun K hK => ?_⟩
      have e40 : a.tmps[40]? = some (.bool false) := by rw [ha]; exact putSel_on (e := (18, 40, .bool false)) 15 rfl rfl (hon 18 (by kernel_rfl)) rfl
      have e45 : a.tmps[45]? = some (.bool false) := by rw [ha]; exact putSel_on (e := (23, 45, .bool false)) 20 rfl rfl (hon 23 (by kernel_rfl)) rfl
      replace ha := Aside0.mk ha
      have HB := Aside0.mk Q_HB
      have HX := Aside0.mk Q_HX
      have HV := Aside0.mk Q_HV
      have HN := Aside0.mk Q_HN
      have HO1 := Aside0.mk Q_HO1
      have HO2 := Aside0.mk Q_HO2
      have HC := Aside0.mk (Q_HC (hon 13 (by kernel_rfl)))
      refine value_ (w1 := w') (v := .bool false) (by rfl) rfl ?_ ?_
      · go_simp
        (try simp only [i64_w])
        try rfl
      refine hK.out _ _ ⟨gn, cn, m13_, m14_, (by rw [ha.out]; exact putSel_upk 21 hb_ rfl rfl rfl), Q_HB, Q_HX, Q_HV, Q_HN, Q_HO1, Q_HO2, Q_HC, Q_X13_, Q_X14_⟩
    exact steps_nil
  rintro b a w10 hall ⟨gn, cn, m13_, m14_, ha, Q_HB, Q_HX, Q_HV, Q_HN, Q_HO1, Q_HO2, Q_HC, Q_X13_, Q_X14_⟩
  clear HB HN HO1 HO2 HV HX
  have hb3_ := hall 3 (by kernel_rfl)
  have hb4_ := hall 4 (by kernel_rfl)
  have hb5_ := hall 5 (by kernel_rfl)
  have hb6_ := hall 6 (by kernel_rfl)
  have hb7_ := hall 7 (by kernel_rfl)
  have hb8_ := hall 8 (by kernel_rfl)
  have hb9_ := hall 9 (by kernel_rfl)
  have hb10_ := hall 10 (by kernel_rfl)
  have hb11_ := hall 11 (by kernel_rfl)
  have hb12_ := hall 12 (by kernel_rfl)
  have hb13_ := hall 13 (by kernel_rfl)
  have hb14_ := hall 14 (by kernel_rfl)
  have hb15_ := hall 15 (by kernel_rfl)
  have hb16_ := hall 16 (by kernel_rfl)
  have hb17_ := hall 17 (by kernel_rfl)
  have hb18_ := hall 18 (by kernel_rfl)
  have hb19_ := hall 19 (by kernel_rfl)
  have hb20_ := hall 20 (by kernel_rfl)
  have hb21_ := hall 21 (by kernel_rfl)
  have hb22_ := hall 22 (by kernel_rfl)
  have hb23_ := hall 23 (by kernel_rfl)
  have hb24_ := hall 24 (by kernel_rfl)
  subst ha
  obtain rfl := Q_X13_ hb13_
  obtain rfl := Q_X14_ hb14_
  simp only [putSel, hb3_, hb4_, hb5_, hb6_, hb7_, hb8_, hb9_, hb10_, hb11_, hb12_, hb13_, hb14_, hb15_, hb16_, hb17_, hb18_, hb19_, hb20_, hb21_, hb22_, hb23_, hb24_, if_true, Act.put, List.setIfInBounds_toArray, List.set_cons_zero, List.set_cons_succ]
  have HB := Aside0.mk Q_HB
  clear Q_HB
  have HX := Aside0.mk Q_HX
  clear Q_HX
  have HV := Aside0.mk Q_HV
  clear Q_HV
  have HN := Aside0.mk Q_HN
  clear Q_HN
  have HO1 := Aside0.mk Q_HO1
  clear Q_HO1
  have HO2 := Aside0.mk Q_HO2
  clear Q_HO2
  have HC := Aside0.mk (Q_HC hb13_)
  clear Q_HC
  clear hall hb3_ hb4_ hb5_ hb6_ hb7_ hb8_ hb9_ hb10_ hb11_ hb12_ hb13_ hb14_ hb15_ hb16_ hb17_ hb18_ hb19_ hb20_ hb21_ hb22_ hb23_ hb24_
  clear HT1 HT2 HT3 HT4 HX HV HN
  go_wp2
  go_loopg [9] (xs.length + 1) (fun kq v9 w' => ∃ i : Nat, v9 = .int .i64 (i : Int) ∧ Aside0 (kq = xs.length + 1 - i ∧ i ≤ xs.length) ∧ Aside0 (w'.ownsRow 0 9 1 (.slice sA1 xs.length sc1) xs.length (xs.map .string)) ∧ Aside0 (w'.ownsRow 0 9 1 (.slice sA2 xs.length sc2) xs.length (xs.map .string)) ∧ Aside0 (Below w.heap.size w w'))
  case atStart => exact ⟨0, rfl, ⟨by omega, by omega⟩, HO1, HO2, HB⟩
  case round =>
    clear HO1 HO2 HB
    obtain ⟨i, hs9, HJ, HO1, HO2, HB⟩ := hrel
    subst hs9
    have hi2 := HJ.out
    by_cases hlt : i < xs.length
    · have u1 : decide ((i : Int) < (xs.length : Int)) = true := decide_eq_true (by omega)
      have u2 : decide (i < xs.length) = true := decide_eq_true hlt
      have u3 := eq_true (show (0 : Int) ≤ (i : Int) by omega)
      have u4 := eq_true (show (i : Int) < (xs.length : Int) by omega)
      have u5 := eq_true hlt
      have HU := Aside0.mk (show wrap64 ((i : Int) + 1) = ((i + 1 : Nat) : Int) by have := HOZ.out; unfold wrap64; omega)
      have HLT := Aside0.mk hlt
      obtain ⟨g1, d1_, hg1, _, _, _, hc1⟩ := row_open HO1.out (by omega)
      obtain ⟨g2, d2_, hg2, _, _, _, hc2⟩ := row_open HO2.out (by omega)
      injection hg1 with hA1 _ hC1_
      injection hg2 with hA2 _ hC2_
      subst hA1 hA2 hC1_ hC2_
      have hx1 := hc1 i (.string xs[i]) (by rw [List.getElem?_map, List.getElem?_eq_getElem hlt]; rfl)
      have hx2 := hc2 i (.string xs[i]) (by rw [List.getElem?_map, List.getElem?_eq_getElem hlt]; rfl)
      generalize xs[i] = x at hx1 hx2
      have HC1 := Aside0.mk hx1
      have HC2 := Aside0.mk hx2
      clear hc1 hc2 hx1 hx2 hi2
      go_upto_region 10 with (fail)
      refine start_ (n := 9) (S := fun w' => True) (ds := []) #[false, false, false, false, false, false, false, false, false] (by kernel_rfl) rfl rfl trivial (fun hHeld => ?_)
      refine with_tabW ft.tab10 ft.bits10 (fun HT_ HW_ => ?_)
      have n1_ := Aside0.mk (pw_cell_below (Below.refl _ _).drew HC1.out); have n2_ := Aside0.mk (pw_cell_below (Below.refl _ _).drew HC2.out); have n6_ := Aside0.mk HB.out.drew; have n7_ := Aside0.mk (pw_own_below HO1.out (Below.refl _ _).drew); have n8_ := Aside0.mk (pw_own_below HO2.out (Below.refl _ _).drew); clear HB HO1 HO2 HC1 HC2; have HC1 := n1_; have HC2 := n2_; have HB := n6_; have HO1 := n7_; have HO2 := n8_; clear n1_ n2_ n6_ n7_ n8_; generalize wr.drew = wd at HC1 HC2 HB HO1 HO2 ⊢
      refine pure_ (i := 0) (N := some 53) (v := ?_) (a' := ?_) #[true, false, false, false, false, false, false, false, false] rfl rfl (any_of HT_.out (by kernel_rfl)) (fun _ _ _ h => h) (Or.inl ⟨by rfl, ?_⟩) ?_ ?_
      rotate_left
      · intro w'
        go_simp
        with_reducible rfl
      rotate_left
      · simp only [Act.put, List.setIfInBounds_toArray, List.set_cons_zero, List.set_cons_succ, i64_w, i32_w]
        rfl
      refine pure_ (i := 1) (N := some 54) (v := ?_) (a' := ?_) #[true, true, false, false, false, false, false, false, false] rfl rfl (any_of HT_.out (by kernel_rfl)) (fun _ _ _ h => h) (Or.inl ⟨by rfl, ?_⟩) ?_ ?_
      rotate_left
      · intro w'
        go_simp
        with_reducible rfl
      rotate_left
      · simp only [Act.put, List.setIfInBounds_toArray, List.set_cons_zero, List.set_cons_succ, i64_w, i32_w]
        rfl
      refine pure_ (i := 2) (N := some 55) (v := ?_) (a' := ?_) #[true, true, true, false, false, false, false, false, false] rfl rfl (any_of HT_.out (by kernel_rfl)) (fun _ _ _ h => h) (Or.inl ⟨by rfl, ?_⟩) ?_ ?_
      rotate_left
      · intro w'
        go_simp
        with_reducible rfl
      rotate_left
      · simp only [Act.put, List.setIfInBounds_toArray, List.set_cons_zero, List.set_cons_succ, i64_w, i32_w]
        rfl
      refine pure_ (i := 4) (N := some 57) (v := ?_) (a' := ?_) #[true, true, true, false, true, false, false, false, false] rfl rfl (any_of HT_.out (by kernel_rfl)) (fun _ _ _ h => h) (Or.inl ⟨by rfl, ?_⟩) ?_ ?_
      rotate_left
      · intro w'
        go_simp
        with_reducible rfl
      rotate_left
      · simp only [Act.put, List.setIfInBounds_toArray, List.set_cons_zero, List.set_cons_succ, i64_w, i32_w]
        rfl
      refine pure_ (i := 5) (N := some 58) (v := ?_) (a' := ?_) #[true, true, true, false, true, true, false, false, false] rfl rfl (any_of HT_.out (by kernel_rfl)) (fun _ _ _ h => h) (Or.inl ⟨by rfl, ?_⟩) ?_ ?_
      rotate_left
      · intro w'
        go_simp
        with_reducible rfl
      rotate_left
      · simp only [Act.put, List.setIfInBounds_toArray, List.set_cons_zero, List.set_cons_succ, i64_w, i32_w]
        rfl
      refine pure_ (i := 6) (N := some 59) (v := ?_) (a' := ?_) #[true, true, true, false, true, true, true, false, false] rfl rfl (any_of HT_.out (by kernel_rfl)) (fun _ _ _ h => h) (Or.inl ⟨by rfl, ?_⟩) ?_ ?_
      rotate_left
      · intro w'
        go_simp
        with_reducible rfl
      rotate_left
      · simp only [Act.put, List.setIfInBounds_toArray, List.set_cons_zero, List.set_cons_succ, i64_w, i32_w]
        rfl
      refine inv_at [3, 7, 8] (fun a0_ b a w' => a = putSel a0_ b [(3, 56, .string x), (7, 60, .string x), (8, 61, .bool false)] ∧ (Below w.heap.size w w') ∧ (w'.cell? ⟨g1, i, none⟩ = some (.string x)) ∧ (w'.cell? ⟨g2, i, none⟩ = some (.string x)) ∧ (w'.ownsRow 0 9 1 (.slice (some ⟨g1, 0, none⟩) xs.length sc1) xs.length (xs.map .string)) ∧ (w'.ownsRow 0 9 1 (.slice (some ⟨g2, 0, none⟩) xs.length sc2) xs.length (xs.map .string))) HT_.out HW_.out (by kernel_rfl) (by kernel_rfl) ?_ ?_ ?_
      · exact ⟨by simp only [putSel, Bool.false_eq_true, if_false], HB.out, HC1.out, HC2.out, HO1.out, HO2.out⟩
      · skip
        clear HB HC1 HC2 HO1 HO2
        refine steps_cons ?_ ?_
        · rintro b a w' ⟨ha, Q_HB, Q_HC1, Q_HC2, Q_HO1, Q_HO2⟩ hb_ hon hoff
          refine ⟨_, rfl, fun K hK => ?_⟩
          have e55 : a.tmps[55]? = some (.pointer (some ⟨g1, i, none⟩)) := by rw [ha]; exact (putSel_off rfl).trans rfl
          replace ha := Aside0.mk ha
          have HB := Aside0.mk Q_HB
          have HC1 := Aside0.mk Q_HC1
          have HC2 := Aside0.mk Q_HC2
          have HO1 := Aside0.mk Q_HO1
          have HO2 := Aside0.mk Q_HO2
          have hx_ := HC1.out
          refine value_ (w1 := w') (v := .string x) (by rfl) rfl ?_ ?_
          · go_simp
            (try simp only [i64_w])
            try rfl
          refine hK.out _ _ ⟨(by rw [ha.out]; exact putSel_upk 0 hb_ rfl rfl rfl), Q_HB, Q_HC1, Q_HC2, Q_HO1, Q_HO2⟩
        refine steps_cons ?_ ?_
        · rintro b a w' ⟨ha, Q_HB, Q_HC1, Q_HC2, Q_HO1, Q_HO2⟩ hb_ hon hoff
          refine ⟨_, rfl, fun K hK => ?_⟩
          have e59 : a.tmps[59]? = some (.pointer (some ⟨g2, i, none⟩)) := by rw [ha]; exact (putSel_off rfl).trans rfl
          replace ha := Aside0.mk ha
          have HB := Aside0.mk Q_HB
          have HC1 := Aside0.mk Q_HC1
          have HC2 := Aside0.mk Q_HC2
          have HO1 := Aside0.mk Q_HO1
          have HO2 := Aside0.mk Q_HO2
          have hx_ := HC2.out
          refine value_ (w1 := w') (v := .string x) (by rfl) rfl ?_ ?_
          · go_simp
            (try simp only [i64_w])
            try rfl
          refine hK.out _ _ ⟨(by rw [ha.out]; exact putSel_upk 1 hb_ rfl rfl rfl), Q_HB, Q_HC1, Q_HC2, Q_HO1, Q_HO2⟩
        refine steps_cons ?_ ?_
        · rintro b a w' ⟨ha, Q_HB, Q_HC1, Q_HC2, Q_HO1, Q_HO2⟩ hb_ hon hoff
          refine ⟨_, rfl, fun K hK => ?_⟩
          have e56 : a.tmps[56]? = some (.string x) := by rw [ha]; exact putSel_on (e := (3, 56, .string x)) 0 rfl rfl (hon 3 (by kernel_rfl)) rfl
          have e60 : a.tmps[60]? = some (.string x) := by rw [ha]; exact putSel_on (e := (7, 60, .string x)) 1 rfl rfl (hon 7 (by kernel_rfl)) rfl
          replace ha := Aside0.mk ha
          have HB := Aside0.mk Q_HB
          have HC1 := Aside0.mk Q_HC1
          have HC2 := Aside0.mk Q_HC2
          have HO1 := Aside0.mk Q_HO1
          have HO2 := Aside0.mk Q_HO2
          refine value_ (w1 := w') (v := .bool false) (by rfl) rfl ?_ ?_
          · go_simp
            (try simp only [i64_w])
            try rfl
          refine hK.out _ _ ⟨(by rw [ha.out]; exact putSel_upk 2 hb_ rfl rfl rfl), Q_HB, Q_HC1, Q_HC2, Q_HO1, Q_HO2⟩
        exact steps_nil
      rintro b a w11 hall ⟨ha, Q_HB, Q_HC1, Q_HC2, Q_HO1, Q_HO2⟩
      clear HB HC1 HC2 HO1 HO2
      have hb3_ := hall 3 (by kernel_rfl)
      have hb7_ := hall 7 (by kernel_rfl)
      have hb8_ := hall 8 (by kernel_rfl)
      subst ha
      simp only [putSel, hb3_, hb7_, hb8_, if_true, Act.put, List.setIfInBounds_toArray, List.set_cons_zero, List.set_cons_succ]
      have HB := Aside0.mk Q_HB
      clear Q_HB
      have HC1 := Aside0.mk Q_HC1
      clear Q_HC1
      have HC2 := Aside0.mk Q_HC2
      clear Q_HC2
      have HO1 := Aside0.mk Q_HO1
      clear Q_HO1
      have HO2 := Aside0.mk Q_HO2
      clear Q_HO2
      clear hall hb3_ hb7_ hb8_
      go_wp2_with fail
      go_roundg (xs.length + 1 - (i + 1))
      case measure => have h1_ := HJ.out; have h2_ := HLT.out; omega
      case rel => exact ⟨i + 1, by first | rfl | (rw [HU.out]), ⟨rfl, HLT.out⟩, HO1, HO2, HB⟩
    · have u1 : decide ((i : Int) < (xs.length : Int)) = false := decide_eq_false (by omega)
      have u2 : decide (i < xs.length) = false := decide_eq_false hlt
      have u5 := eq_false hlt
      go_wp2_with fail
      go_ret
      exact ⟨by first | rfl | simp, HB.out⟩


end Go.Proofs.YtegcaniikdibdaaDoor.VFaultTexts
