/- Contracts of functions of this seat: each call comes to what its Lean function computes; no condition beyond what each theorem states. Printed by a program of this session's own laid over the kit's printer. -/
import Derived.Test.YtegcaniikdibdaaDoorVFaultTextsx0
import Derived.Test.YtegcaniikdibdaaDoorVFaultTextsx1
import Derived.Test.YtegcaniikdibdaaDoorVFaultTextsx4
import Derived.Test.YtegcaniikdibdaaDoorVFaultTextsx5
import Derived.Test.YtegcaniikdibdaaDoorVFaultTextsx14
import Derived.Test.YtegcaniikdibdaaDoorVFaultTextsx17
import Derived.Test.YtegcaniikdibdaaDoorVFaultTextsx22
namespace Go.Proofs.YtegcaniikdibdaaDoor.VFaultTexts
open Go.RowKit Go.Proofs.YtegcaniikdibdaaDoorW.PrintWords Go.Proofs.YtegcaniikdibdaaDoorW.PrintLast Go.Proofs.YtegcaniikdibdaaDoorW.PrintMore
attribute [local go_sem] max2_int min2_int max_two min_two max_three min_three max_four min_four   -- for this text's walks alone
set_option linter.unusedVariables false
set_option linter.unusedSimpArgs false

-- @GIVEN posthorseref02_Text
/-! ### posthorseref02_Text: by hand -/
def wordsV : Array Value := (wordsL.map fun l => Value.string ⟨l.toArray⟩).toArray
theorem wordsV_at (j : Nat) (h : j < 20) : wordsV[j]? = some (.string (wordB (j : Int))) := by
  have hlen : wordsL.length = 20 := by decide
  unfold wordsV wordB
  rw [if_pos (by omega), List.getElem?_toArray, List.getElem?_map, List.getElem?_eq_getElem (by omega)]
  have : wordsL.getD ((j : Int)).toNat [] = wordsL[j] := by
    show wordsL.getD j [] = _
    rw [List.getD_eq_getElem?_getD, List.getElem?_eq_getElem (by omega)]
    rfl
  rw [this]
  rfl
set_option maxHeartbeats 8000000 in
set_option maxRecDepth 100000 in
theorem word_calls (n : Int) (h1 : 1 ≤ n) (h2 : n ≤ 19) (w : World) : Calls Tryd.prog 45 #[.int .i64 n] w fun r w' => r = .returned (.string (wordB n)) ∧ Below w.heap.size w w' := by
  obtain ⟨j, rfl⟩ := Int.eq_ofNat_of_zero_le (show (0 : Int) ≤ n by omega)
  have HC := Aside0.mk (wordsV_at j (by omega))
  generalize wordB (j : Int) = wb at HC ⊢
  have p0 := eq_true (show (0 : Int) ≤ (j : Int) by omega)
  have p1 : decide ((j : Int) < 1) = false := decide_eq_false (by omega)
  have p2 : decide (19 < (j : Int)) = false := decide_eq_false (by omega)
  have p3 := eq_true (show (j : Int) < 20 by omega)
  have p4 := eq_true (show j < 20 by omega)
  have p5 : decide (j < 1) = false := decide_eq_false (by omega)
  have p6 : decide (19 < j) = false := decide_eq_false (by omega)
  clear h1 h2
  go_enter Tryd.func45, Tryd.ntmps45
  go_wp2_with ((with_reducible refine gate_dst (N := 4) rfl ?_); refine lit_event ?hg (N := 4) ?hd (cs := wordsV) (t := 9) (m := 20) ?hr ?_; (case hd => rfl); (case hg => rfl); (case hr => unfold wordsV; first | (go_simp; done) | (go_simp; rfl)); intro g4 hg4 w4 hbox hb; have hx := (blk_cell hbox j).trans HC.out; have HB4 := Aside0.mk hb; clear hg4 hbox hb)
  go_ret
  exact ⟨rfl, HB4.out⟩
/-- The digits of its places. -/
def Er.digs (kk : Nat) : Er → Prop
  | .num _ => True
  | .wrap _ p e => posthorseref02_Digits.f kk p = some ⟨(Lib.itoa p).toArray⟩ ∧ e.digs kk
  | .many e _ => e.digs kk
def rt.T4 : Bool × List (List Nat × List Nat) := (true, [([], []), ([0], [0]), ([1], [1]), ([], []), ([3], [3]), ([4], [4]), ([2, 5], [2, 5]), ([6], [6]), ([], []), ([8], [8]), ([9], [9]), ([10], [10]), ([11, 5], [11]), ([7, 12], [7, 12]), ([13, 12, 0, 1, 2, 3, 4, 5, 6, 7, 8, 9, 10, 11, 12, 13], [13])])
def rt.B4 : List Nat := [0, 1, 3, 0, 8, 24, 63, 127, 0, 256, 768, 1792, 3896, 8191, 16383]
theorem rt.tab4 : rtab .any (opsOf Tryd.f18 4) = rt.T4 := by kernel_rfl
theorem rt.bits4 : waitsOk rt.T4.2 rt.B4 = true := by kernel_rfl
set_option maxHeartbeats 8000000 in
set_option maxRecDepth 100000 in
theorem reftext_num (m : Int) (h1 : 1 ≤ m) (h2 : m ≤ 19) (w : World) : Calls Tryd.prog 18 #[.agg #[.int .i64 3, .int .i64 0, .int .i64 m, .string ⟨#[]⟩, .slice none 0 0]] w fun r w' => r = .returned (.string (wordB m)) ∧ Below w.heap.size w w' := by
  have HW := Aside0.mk (word_calls m h1 h2)
  have HBA := Aside0.mk (below_alloc (Below.refl w.heap.size w) (.cells #[.int .i64 3, .int .i64 0, .int .i64 m, .string ⟨#[]⟩, .slice none 0 0] 30))
  clear h1 h2
  go_enter Tryd.func18, Tryd.ntmps18
  go_wp2_with (go_at_call 45; (refine (HW.out _).mono ?_); rintro r w5 ⟨rfl, hb⟩; have HB5 := Aside0.mk (below_step HBA.out hb); clear hb)
  go_ret
  exact ⟨rfl, HB5.out⟩
set_option maxHeartbeats 8000000 in
set_option maxRecDepth 100000 in
/-- The document's text of a node. -/
theorem reftext_tree (kk B : Nat) : ∀ (e : Er) (k a n : Int) (op : ByteArray) (sl : Value) (w : World), e.fine → e.digs kk → e.sz ≤ 1000 → NodeV w B k a n op sl e →
    Calls Tryd.prog 18 #[.agg #[.int .i64 k, .int .i64 a, .int .i64 n, .string op, sl]] w fun r w' => r = .returned (.string e.text) ∧ Below w.heap.size w w' := by
  intro e
  induction e with
  | num m =>
    intro k a n op sl w hf _ _ h
    obtain ⟨rfl, rfl, rfl, rfl, rfl⟩ := h
    exact reftext_num n hf.1 hf.2 w
  | wrap o p e ih =>
    intro k pa n op sl w hf hd hs h
    obtain ⟨rfl, rfl, rfl, rfl, g, k1, a1, n1, o1, s1, rfl, _, hg, hn⟩ := h
    obtain ⟨hf1, hf2, hf3⟩ := hf
    obtain ⟨hd1, hd2⟩ := hd
    have hba := below_alloc (Below.refl w.heap.size w) (.cells #[.int .i64 1, .int .i64 pa, .int .i64 0, .string op, .slice (some ⟨g, 0, none⟩) 1 1] 30)
    have HB := Aside0.mk hba
    have HX := Aside0.mk (blk_new w (.cells #[.int .i64 1, .int .i64 pa, .int .i64 0, .string op, .slice (some ⟨g, 0, none⟩) 1 1] 30))
    obtain ⟨sA, sn, sc, rfl⟩ := hn.slice
    have HN := Aside0.mk (hn.below hba)
    have HG := Aside0.mk (blk_below hg hba)
    have hss : e.sz ≤ 1000 := by simp only [Er.sz] at hs; omega
    have htl := e.text_le hf3
    have hil := Lib.itoa_length_le pa hf2.1 hf2.2
    have HZ := Aside0.mk (show op.size + (⟨(Lib.itoa pa).toArray⟩ : ByteArray).size + e.text.size ≤ 1000000 by
      have h4 : (⟨(Lib.itoa pa).toArray⟩ : ByteArray).size = (Lib.itoa pa).length := rfl
      omega)
    have IH := Aside0.mk (fun (W : World) (hv : NodeV W B k1 a1 n1 o1 (.slice sA sn sc) e) => ih k1 a1 n1 o1 (.slice sA sn sc) W hf3 hd2 hss hv)
    have HD := Aside0.mk (fun (W : World) => posthorseref02_Digits.calls kk pa _ W hd1)
    show Calls _ _ _ _ fun r w' => r = .returned (.string ((((op ++ (⟨#[32]⟩ : ByteArray)) ++ (⟨(Lib.itoa pa).toArray⟩ : ByteArray)) ++ (⟨#[58, 32]⟩ : ByteArray)) ++ e.text)) ∧ Below w.heap.size w w'
    generalize e.text = tx at HZ IH ⊢
    generalize (⟨(Lib.itoa pa).toArray⟩ : ByteArray) = it at HZ HD ⊢
    clear hba ih hs hg hn hf1 hf2 hf3 hd1 hd2 hss htl hil
    go_enter Tryd.func18, Tryd.ntmps18
    have hq0 := (blk_cell HX.out 0).trans rfl
    go_upto_region 4 with (fail)
    refine start_ (n := 15) (S := fun w' => True) (ds := []) #[false, false, false, false, false, false, false, false, false, false, false, false, false, false, false] (by kernel_rfl) rfl rfl trivial (fun hHeld => ?_)
    refine with_tabW rt.tab4 rt.bits4 (fun HT_ HW_ => ?_)
    clear hq0; have n1_ := Aside0.mk (blk_drew HX.out); have n2_ := Aside0.mk (blk_drew HG.out); have n3_ := Aside0.mk (HN.out.below (Below.refl _ _).drew); have n4_ := Aside0.mk HB.out.drew; clear HX HG HN HB; have HX := n1_; have HG := n2_; have HN := n3_; have HB := n4_; clear n1_ n2_ n3_ n4_; generalize (w.alloc (.cells #[.int .i64 1, .int .i64 pa, .int .i64 0, .string op, .slice (some ⟨g, 0, none⟩) 1 1] 30)).drew = wd at HX HG HN HB ⊢
    refine pure_ (i := 0) (N := some 14) (v := ?_) (a' := ?_) #[true, false, false, false, false, false, false, false, false, false, false, false, false, false, false] rfl rfl (any_of HT_.out (by kernel_rfl)) (fun _ _ _ h => h) (Or.inl ⟨by rfl, ?_⟩) ?_ ?_
    rotate_left
    · intro w'
      go_simp
      with_reducible rfl
    rotate_left
    · simp only [Act.put, List.setIfInBounds_toArray, List.set_cons_zero, List.set_cons_succ, i64_w, i32_w]
      rfl
    refine pure_ (i := 3) (N := some 17) (v := ?_) (a' := ?_) #[true, false, false, true, false, false, false, false, false, false, false, false, false, false, false] rfl rfl (any_of HT_.out (by kernel_rfl)) (fun _ _ _ h => h) (Or.inl ⟨by rfl, ?_⟩) ?_ ?_
    rotate_left
    · intro w'
      go_simp
      with_reducible rfl
    rotate_left
    · simp only [Act.put, List.setIfInBounds_toArray, List.set_cons_zero, List.set_cons_succ, i64_w, i32_w]
      rfl
    refine pure_ (i := 8) (N := some 22) (v := ?_) (a' := ?_) #[true, false, false, true, false, false, false, false, true, false, false, false, false, false, false] rfl rfl (any_of HT_.out (by kernel_rfl)) (fun _ _ _ h => h) (Or.inl ⟨by rfl, ?_⟩) ?_ ?_
    rotate_left
    · intro w'
      go_simp
      with_reducible rfl
    rotate_left
    · simp only [Act.put, List.setIfInBounds_toArray, List.set_cons_zero, List.set_cons_succ, i64_w, i32_w]
      rfl
    refine inv_at [1, 2, 4, 5, 6, 7, 9, 10, 11, 12, 13, 14] (fun a0_ b a w' => a = putSel a0_ b [(1, 15, .string op), (2, 16, .string (op ++ (⟨#[32]⟩ : ByteArray))), (4, 18, .int .i64 pa), (5, 19, .string it), (6, 20, .string ((op ++ (⟨#[32]⟩ : ByteArray)) ++ it)), (7, 21, .string (((op ++ (⟨#[32]⟩ : ByteArray)) ++ it) ++ (⟨#[58, 32]⟩ : ByteArray))), (9, 23, .slice (some ⟨g, 0, none⟩) 1 1), (10, 24, .pointer (some ⟨g, 0, none⟩)), (11, 25, .agg #[.int .i64 k1, .int .i64 a1, .int .i64 n1, .string o1, .slice sA sn sc]), (12, 26, .string tx), (13, 27, .string ((((op ++ (⟨#[32]⟩ : ByteArray)) ++ it) ++ (⟨#[58, 32]⟩ : ByteArray)) ++ tx)), (14, 2, .string ((((op ++ (⟨#[32]⟩ : ByteArray)) ++ it) ++ (⟨#[58, 32]⟩ : ByteArray)) ++ tx))] ∧ (Below w.heap.size w w') ∧ (w'.heap[w.heap.size]? = some (.cells #[.int .i64 1, .int .i64 pa, .int .i64 0, .string op, .slice (some ⟨g, 0, none⟩) 1 1] 30 (0, 0))) ∧ (w'.heap[g]? = some (.cells #[.int .i64 k1, .int .i64 a1, .int .i64 n1, .string o1, .slice sA sn sc] 30 (0, 0))) ∧ (NodeV w' B k1 a1 n1 o1 (.slice sA sn sc) e)) HT_.out HW_.out (by kernel_rfl) (by kernel_rfl) ?_ ?_ ?_
    · exact ⟨by simp only [putSel, Bool.false_eq_true, if_false], HB.out, HX.out, HG.out, HN.out⟩
    · skip
      clear HB HG HN HX
      refine steps_cons ?_ ?_
      · rintro b a w' ⟨ha, Q_HB, Q_HX, Q_HG, Q_HN⟩ hb_ hon hoff
        refine ⟨_, rfl, fun K hK => ?_⟩
        have e14 : a.tmps[14]? = some (.pointer (some ⟨w.heap.size, 3, none⟩)) := by rw [ha]; exact (putSel_off rfl).trans rfl
        replace ha := Aside0.mk ha
        have HB := Aside0.mk Q_HB
        have HX := Aside0.mk Q_HX
        have HG := Aside0.mk Q_HG
        have HN := Aside0.mk Q_HN
        have hx_ := (blk_cell HX.out 3).trans rfl
        refine value_ (w1 := w') (v := .string op) (by rfl) rfl ?_ ?_
        · go_simp
          (try simp only [i64_w])
          try rfl
        refine hK.out _ _ ⟨(by rw [ha.out]; exact putSel_upk 0 hb_ rfl rfl rfl), Q_HB, Q_HX, Q_HG, Q_HN⟩
      refine steps_cons ?_ ?_
      · rintro b a w' ⟨ha, Q_HB, Q_HX, Q_HG, Q_HN⟩ hb_ hon hoff
        refine ⟨_, rfl, fun K hK => ?_⟩
        have e15 : a.tmps[15]? = some (.string op) := by rw [ha]; exact putSel_on (e := (1, 15, .string op)) 0 rfl rfl (hon 1 (by kernel_rfl)) rfl
        replace ha := Aside0.mk ha
        have HB := Aside0.mk Q_HB
        have HX := Aside0.mk Q_HX
        have HG := Aside0.mk Q_HG
        have HN := Aside0.mk Q_HN
        have hz_ := HZ.out
        refine value_ (w1 := w') (v := .string (op ++ (⟨#[32]⟩ : ByteArray))) (by rfl) rfl ?_ ?_
        · go_simp
          try omega
          try rfl
        refine hK.out _ _ ⟨(by rw [ha.out]; exact putSel_upk 1 hb_ rfl rfl rfl), HB.out, HX.out, HG.out, HN.out⟩
      refine steps_cons ?_ ?_
      · rintro b a w' ⟨ha, Q_HB, Q_HX, Q_HG, Q_HN⟩ hb_ hon hoff
        refine ⟨_, rfl, fun K hK => ?_⟩
        have e17 : a.tmps[17]? = some (.pointer (some ⟨w.heap.size, 1, none⟩)) := by rw [ha]; exact (putSel_off rfl).trans rfl
        replace ha := Aside0.mk ha
        have HB := Aside0.mk Q_HB
        have HX := Aside0.mk Q_HX
        have HG := Aside0.mk Q_HG
        have HN := Aside0.mk Q_HN
        have hx_ := (blk_cell HX.out 1).trans rfl
        refine value_ (w1 := w') (v := .int .i64 pa) (by rfl) rfl ?_ ?_
        · go_simp
          (try simp only [i64_w])
          try rfl
        refine hK.out _ _ ⟨(by rw [ha.out]; exact putSel_upk 2 hb_ rfl rfl rfl), Q_HB, Q_HX, Q_HG, Q_HN⟩
      refine steps_cons ?_ ?_
      · rintro b a w' ⟨ha, Q_HB, Q_HX, Q_HG, Q_HN⟩ hb_ hon hoff
        refine ⟨_, rfl, fun K hK => ?_⟩
        have e18 : a.tmps[18]? = some (.int .i64 pa) := by rw [ha]; exact putSel_on (e := (4, 18, .int .i64 pa)) 2 rfl rfl (hon 4 (by kernel_rfl)) rfl
        replace ha := Aside0.mk ha
        have HB := Aside0.mk Q_HB
        have HX := Aside0.mk Q_HX
        have HG := Aside0.mk Q_HG
        have HN := Aside0.mk Q_HN
        refine goes_ Tryd.func28 (by kernel_rfl) rfl #[.int .i64 pa] (by rfl) rfl rfl (by first | (simp only [List.map_toArray, List.map_cons, List.map_nil, Act.eval, Array.getD_eq_getD_getElem?, Option.getD_some, e18]; done) | (simp only [List.map_toArray, List.map_cons, List.map_nil, Act.eval, Array.getD_eq_getD_getElem?, Option.getD_some, e18]; rfl)) ?_
        refine (HD.out _).mono ?_
        rintro e_ wN ⟨rfl, hbw_⟩
        refine ⟨_, rfl, ?_⟩
        refine hK.out _ _ ⟨(by rw [ha.out]; exact putSel_upk 3 hb_ rfl rfl rfl), below_step HB.out hbw_, blk_below HX.out hbw_, blk_below HG.out hbw_, (fun he_ hb_ => NodeV.below hb_ he_) (HN.out) (hbw_)⟩
      refine steps_cons ?_ ?_
      · rintro b a w' ⟨ha, Q_HB, Q_HX, Q_HG, Q_HN⟩ hb_ hon hoff
        refine ⟨_, rfl, fun K hK => ?_⟩
        have e16 : a.tmps[16]? = some (.string (op ++ (⟨#[32]⟩ : ByteArray))) := by rw [ha]; exact putSel_on (e := (2, 16, .string (op ++ (⟨#[32]⟩ : ByteArray)))) 1 rfl rfl (hon 2 (by kernel_rfl)) rfl
        have e19 : a.tmps[19]? = some (.string it) := by rw [ha]; exact putSel_on (e := (5, 19, .string it)) 3 rfl rfl (hon 5 (by kernel_rfl)) rfl
        replace ha := Aside0.mk ha
        have HB := Aside0.mk Q_HB
        have HX := Aside0.mk Q_HX
        have HG := Aside0.mk Q_HG
        have HN := Aside0.mk Q_HN
        have hz_ := HZ.out
        refine value_ (w1 := w') (v := .string ((op ++ (⟨#[32]⟩ : ByteArray)) ++ it)) (by rfl) rfl ?_ ?_
        · go_simp
          try omega
          try rfl
        refine hK.out _ _ ⟨(by rw [ha.out]; exact putSel_upk 4 hb_ rfl rfl rfl), HB.out, HX.out, HG.out, HN.out⟩
      refine steps_cons ?_ ?_
      · rintro b a w' ⟨ha, Q_HB, Q_HX, Q_HG, Q_HN⟩ hb_ hon hoff
        refine ⟨_, rfl, fun K hK => ?_⟩
        have e20 : a.tmps[20]? = some (.string ((op ++ (⟨#[32]⟩ : ByteArray)) ++ it)) := by rw [ha]; exact putSel_on (e := (6, 20, .string ((op ++ (⟨#[32]⟩ : ByteArray)) ++ it))) 4 rfl rfl (hon 6 (by kernel_rfl)) rfl
        replace ha := Aside0.mk ha
        have HB := Aside0.mk Q_HB
        have HX := Aside0.mk Q_HX
        have HG := Aside0.mk Q_HG
        have HN := Aside0.mk Q_HN
        have hz_ := HZ.out
        refine value_ (w1 := w') (v := .string (((op ++ (⟨#[32]⟩ : ByteArray)) ++ it) ++ (⟨#[58, 32]⟩ : ByteArray))) (by rfl) rfl ?_ ?_
        · go_simp
          try omega
          try rfl
        refine hK.out _ _ ⟨(by rw [ha.out]; exact putSel_upk 5 hb_ rfl rfl rfl), HB.out, HX.out, HG.out, HN.out⟩
      refine steps_cons ?_ ?_
      · rintro b a w' ⟨ha, Q_HB, Q_HX, Q_HG, Q_HN⟩ hb_ hon hoff
        refine ⟨_, rfl, fun K hK => ?_⟩
        have e22 : a.tmps[22]? = some (.pointer (some ⟨w.heap.size, 4, none⟩)) := by rw [ha]; exact (putSel_off rfl).trans rfl
        replace ha := Aside0.mk ha
        have HB := Aside0.mk Q_HB
        have HX := Aside0.mk Q_HX
        have HG := Aside0.mk Q_HG
        have HN := Aside0.mk Q_HN
        have hx_ := (blk_cell HX.out 4).trans rfl
        refine value_ (w1 := w') (v := .slice (some ⟨g, 0, none⟩) 1 1) (by rfl) rfl ?_ ?_
        · go_simp
          (try simp only [i64_w])
          try rfl
        refine hK.out _ _ ⟨(by rw [ha.out]; exact putSel_upk 6 hb_ rfl rfl rfl), Q_HB, Q_HX, Q_HG, Q_HN⟩
      refine steps_cons ?_ ?_
      · rintro b a w' ⟨ha, Q_HB, Q_HX, Q_HG, Q_HN⟩ hb_ hon hoff
        refine ⟨_, rfl, fun K hK => ?_⟩
        have e23 : a.tmps[23]? = some (.slice (some ⟨g, 0, none⟩) 1 1) := by rw [ha]; exact putSel_on (e := (9, 23, .slice (some ⟨g, 0, none⟩) 1 1)) 6 rfl rfl (hon 9 (by kernel_rfl)) rfl
        replace ha := Aside0.mk ha
        have HB := Aside0.mk Q_HB
        have HX := Aside0.mk Q_HX
        have HG := Aside0.mk Q_HG
        have HN := Aside0.mk Q_HN
        refine value_ (w1 := w') (v := .pointer (some ⟨g, 0, none⟩)) (by rfl) rfl ?_ ?_
        · go_simp
          (try simp only [i64_w])
          try rfl
        refine hK.out _ _ ⟨(by rw [ha.out]; exact putSel_upk 7 hb_ rfl rfl rfl), Q_HB, Q_HX, Q_HG, Q_HN⟩
      refine steps_cons ?_ ?_
      · rintro b a w' ⟨ha, Q_HB, Q_HX, Q_HG, Q_HN⟩ hb_ hon hoff
        refine ⟨_, rfl, fun K hK => ?_⟩
        have e24 : a.tmps[24]? = some (.pointer (some ⟨g, 0, none⟩)) := by rw [ha]; exact putSel_on (e := (10, 24, .pointer (some ⟨g, 0, none⟩))) 7 rfl rfl (hon 10 (by kernel_rfl)) rfl
        replace ha := Aside0.mk ha
        have HB := Aside0.mk Q_HB
        have HX := Aside0.mk Q_HX
        have HG := Aside0.mk Q_HG
        have HN := Aside0.mk Q_HN
        have hq0_ := (blk_cell HG.out 0).trans rfl
        have hq1_ := (blk_cell HG.out 1).trans rfl
        have hq2_ := (blk_cell HG.out 2).trans rfl
        have hq3_ := (blk_cell HG.out 3).trans rfl
        have hq4_ := (blk_cell HG.out 4).trans rfl
        refine value_ (w1 := w') (v := .agg #[.int .i64 k1, .int .i64 a1, .int .i64 n1, .string o1, .slice sA sn sc]) (by rfl) rfl ?_ ?_
        · go_simp
          (try simp only [i64_w])
          try rfl
        refine hK.out _ _ ⟨(by rw [ha.out]; exact putSel_upk 8 hb_ rfl rfl rfl), Q_HB, Q_HX, Q_HG, Q_HN⟩
      refine steps_cons ?_ ?_
      · rintro b a w' ⟨ha, Q_HB, Q_HX, Q_HG, Q_HN⟩ hb_ hon hoff
        refine ⟨_, rfl, fun K hK => ?_⟩
        have e25 : a.tmps[25]? = some (.agg #[.int .i64 k1, .int .i64 a1, .int .i64 n1, .string o1, .slice sA sn sc]) := by rw [ha]; exact putSel_on (e := (11, 25, .agg #[.int .i64 k1, .int .i64 a1, .int .i64 n1, .string o1, .slice sA sn sc])) 8 rfl rfl (hon 11 (by kernel_rfl)) rfl
        replace ha := Aside0.mk ha
        have HB := Aside0.mk Q_HB
        have HX := Aside0.mk Q_HX
        have HG := Aside0.mk Q_HG
        have HN := Aside0.mk Q_HN
        refine goes_ Tryd.func18 (by kernel_rfl) rfl #[.agg #[.int .i64 k1, .int .i64 a1, .int .i64 n1, .string o1, .slice sA sn sc]] (by rfl) rfl rfl (by first | (simp only [List.map_toArray, List.map_cons, List.map_nil, Act.eval, Array.getD_eq_getD_getElem?, Option.getD_some, e25]; done) | (simp only [List.map_toArray, List.map_cons, List.map_nil, Act.eval, Array.getD_eq_getD_getElem?, Option.getD_some, e25]; rfl)) ?_
        refine (IH.out _ HN.out).mono ?_
        rintro e_ wN ⟨rfl, hbw_⟩
        refine ⟨_, rfl, ?_⟩
        refine hK.out _ _ ⟨(by rw [ha.out]; exact putSel_upk 9 hb_ rfl rfl rfl), below_step HB.out hbw_, blk_below HX.out hbw_, blk_below HG.out hbw_, (fun he_ hb_ => NodeV.below hb_ he_) (HN.out) (hbw_)⟩
      refine steps_cons ?_ ?_
      · rintro b a w' ⟨ha, Q_HB, Q_HX, Q_HG, Q_HN⟩ hb_ hon hoff
        refine ⟨_, rfl, fun K hK => ?_⟩
        have e21 : a.tmps[21]? = some (.string (((op ++ (⟨#[32]⟩ : ByteArray)) ++ it) ++ (⟨#[58, 32]⟩ : ByteArray))) := by rw [ha]; exact putSel_on (e := (7, 21, .string (((op ++ (⟨#[32]⟩ : ByteArray)) ++ it) ++ (⟨#[58, 32]⟩ : ByteArray)))) 5 rfl rfl (hon 7 (by kernel_rfl)) rfl
        have e26 : a.tmps[26]? = some (.string tx) := by rw [ha]; exact putSel_on (e := (12, 26, .string tx)) 9 rfl rfl (hon 12 (by kernel_rfl)) rfl
        replace ha := Aside0.mk ha
        have HB := Aside0.mk Q_HB
        have HX := Aside0.mk Q_HX
        have HG := Aside0.mk Q_HG
        have HN := Aside0.mk Q_HN
        have hz_ := HZ.out
        refine value_ (w1 := w') (v := .string ((((op ++ (⟨#[32]⟩ : ByteArray)) ++ it) ++ (⟨#[58, 32]⟩ : ByteArray)) ++ tx)) (by rfl) rfl ?_ ?_
        · go_simp
          try omega
          try rfl
        refine hK.out _ _ ⟨(by rw [ha.out]; exact putSel_upk 10 hb_ rfl rfl rfl), HB.out, HX.out, HG.out, HN.out⟩
      refine steps_cons ?_ ?_
      · rintro b a w' ⟨ha, Q_HB, Q_HX, Q_HG, Q_HN⟩ hb_ hon hoff
        refine ⟨_, rfl, fun K hK => ?_⟩
        have e27 : a.tmps[27]? = some (.string ((((op ++ (⟨#[32]⟩ : ByteArray)) ++ it) ++ (⟨#[58, 32]⟩ : ByteArray)) ++ tx)) := by rw [ha]; exact putSel_on (e := (13, 27, .string ((((op ++ (⟨#[32]⟩ : ByteArray)) ++ it) ++ (⟨#[58, 32]⟩ : ByteArray)) ++ tx))) 10 rfl rfl (hon 13 (by kernel_rfl)) rfl
        replace ha := Aside0.mk ha
        have HB := Aside0.mk Q_HB
        have HX := Aside0.mk Q_HX
        have HG := Aside0.mk Q_HG
        have HN := Aside0.mk Q_HN
        refine value_ (w1 := w') (v := .string ((((op ++ (⟨#[32]⟩ : ByteArray)) ++ it) ++ (⟨#[58, 32]⟩ : ByteArray)) ++ tx)) (by rfl) rfl ?_ ?_
        · go_simp
          (try simp only [i64_w])
          try rfl
        refine hK.out _ _ ⟨(by rw [ha.out]; exact putSel_upk 11 hb_ rfl rfl rfl), Q_HB, Q_HX, Q_HG, Q_HN⟩
      exact steps_nil
    rintro b a w9 hall ⟨ha, Q_HB, Q_HX, Q_HG, Q_HN⟩
    clear HB HG HN HX
    have hb1_ := hall 1 (by kernel_rfl)
    have hb2_ := hall 2 (by kernel_rfl)
    have hb4_ := hall 4 (by kernel_rfl)
    have hb5_ := hall 5 (by kernel_rfl)
    have hb6_ := hall 6 (by kernel_rfl)
    have hb7_ := hall 7 (by kernel_rfl)
    have hb9_ := hall 9 (by kernel_rfl)
    have hb10_ := hall 10 (by kernel_rfl)
    have hb11_ := hall 11 (by kernel_rfl)
    have hb12_ := hall 12 (by kernel_rfl)
    have hb13_ := hall 13 (by kernel_rfl)
    have hb14_ := hall 14 (by kernel_rfl)
    subst ha
    simp only [putSel, hb1_, hb2_, hb4_, hb5_, hb6_, hb7_, hb9_, hb10_, hb11_, hb12_, hb13_, hb14_, if_true, Act.put, List.setIfInBounds_toArray, List.set_cons_zero, List.set_cons_succ]
    have HB := Aside0.mk Q_HB
    clear Q_HB
    have HX := Aside0.mk Q_HX
    clear Q_HX
    have HG := Aside0.mk Q_HG
    clear Q_HG
    have HN := Aside0.mk Q_HN
    clear Q_HN
    clear hall hb1_ hb2_ hb4_ hb5_ hb6_ hb7_ hb9_ hb10_ hb11_ hb12_ hb13_ hb14_
    go_wp2
    go_ret
    exact ⟨rfl, HB.out⟩
  | many e l ih =>
    intro k a n op sl w hf hd hs h
    obtain ⟨rfl, rfl, rfl, rfl, g, k1, a1, n1, o1, s1, m, rfl, _, rfl, hg, hn⟩ := h
    obtain ⟨⟨m', hm, hm1, hm2⟩, hfe⟩ := hf
    obtain rfl : m = m' := by simpa using hm
    have hba := below_alloc (Below.refl w.heap.size w) (.cells #[.int .i64 2, .int .i64 0, .int .i64 0, .string ⟨#[]⟩, .slice (some ⟨g, 0, none⟩) 2 2] 30)
    have HBA := Aside0.mk hba
    have HX := Aside0.mk (blk_new w (.cells #[.int .i64 2, .int .i64 0, .int .i64 0, .string ⟨#[]⟩, .slice (some ⟨g, 0, none⟩) 2 2] 30))
    obtain ⟨sA, sn, sc, rfl⟩ := hn.slice
    have HN := Aside0.mk (hn.below hba)
    have hss : e.sz ≤ 1000 := by simp only [Er.sz] at hs; omega
    have htl := e.text_le hfe
    have hwl := wordB_le m hm1 hm2
    have IH := Aside0.mk (fun (W : World) (hv : NodeV W B k1 a1 n1 o1 (.slice sA sn sc) e) => ih k1 a1 n1 o1 (.slice sA sn sc) W hfe hd hss hv)
    have HT := Aside0.mk (reftext_num m hm1 hm2)
    show Calls _ _ _ _ fun r w' => r = .returned (.string ((e.text ++ (⟨#[59, 32]⟩ : ByteArray)) ++ wordB m)) ∧ Below w.heap.size w w'
    have hz0 : e.text.size ≤ 100000 := by omega
    generalize e.text = tx at IH hz0 ⊢
    generalize wordB m = wb at HT hwl ⊢
    have hgg := blk_below hg hba
    have HGG := Aside0.mk hgg
    have c0 := (blk_cell HX.out 0).trans rfl
    have c4 := (blk_cell HX.out 4).trans rfl
    have q0 := (blk_cell hgg 0).trans rfl
    have q1 := (blk_cell hgg 1).trans rfl
    have q2 := (blk_cell hgg 2).trans rfl
    have q3 := (blk_cell hgg 3).trans rfl
    have q4 := (blk_cell hgg 4).trans rfl
    clear hba ih hs hg hn hss htl hd hm hm1 hm2 hgg hfe
    go_enter Tryd.func18, Tryd.ntmps18
    go_wp2
    refine wp_loop_rounds 3 ?_
    rw [rounds_succ]
    go_wp2_with (go_at_call 18; (refine (IH.out _ HN.out).mono ?_); clear IH; rintro r w8 ⟨rfl, hb8⟩; have HB8 := Aside0.mk (below_step HBA.out hb8); have HX8 := Aside0.mk (blk_below HX.out hb8); have hG9 := blk_below HGG.out hb8; have c4 := (blk_cell HX8.out 4).trans rfl; have q0 := (blk_cell hG9 5).trans rfl; have q1 := (blk_cell hG9 6).trans rfl; have q2 := (blk_cell hG9 7).trans rfl; have q3 := (blk_cell hG9 8).trans rfl; have q4 := (blk_cell hG9 9).trans rfl; clear hb8 hG9)
    rw [rounds_succ]
    go_wp2_with (go_at_call 18; (refine (HT.out _).mono ?_); rintro r w10 ⟨rfl, hb10⟩; have HB10 := Aside0.mk (below_step HB8.out hb10); have c4 := (blk_cell (blk_below HX8.out hb10) 4).trans rfl; clear hb10)
    rw [rounds_succ]
    go_wp2
    go_ret
    exact ⟨by first | rfl | simp, HB10.out⟩


end Go.Proofs.YtegcaniikdibdaaDoor.VFaultTexts
