/- PageApart: whatever the input, the law returns true and the input reads as it did; out of the pure law (YtegcaniikdibdaaDoorPurePageApart) and the walk of the function. -/
import Derived.Test.YtegcaniikdibdaaDoorRows
import Derived.Test.YtegcaniikdibdaaDoorPurePageApart
import Derived.Test.YtegcaniikdibdaaDoorTie
import Derived.Test.YtegcaniikdibdaaDoorCards
import Derived.Test.YtegcaniikdibdaaDoorVPageApartx11
import Derived.Test.YtegcaniikdibdaaDoorVPageApartx12
import Derived.WalkKit
import Derived.ProofKit
import Derived.OpenShut
import Derived.ShutString
import Derived.ChangeOld
import Derived.Below
import Derived.SizedLaws
import Derived.Carry
import Derived.LaidMore
import Derived.Lay
import Derived.LaidHandle
import Derived.LaidLaws
import Derived.MakeChecks
import Derived.Stop.Joined
import Derived.JoinedOf
import Derived.SevenTiedAt
import Derived.FnData
namespace Go.Proofs.YtegcaniikdibdaaDoor.pageApart
open Go.ChangeShapes Go.WideShapes Go.ChangeAt Go.RowKit Go.Proofs.YtegcaniikdibdaaDoor.VPageApart Go.Proofs.YtegcaniikdibdaaDoorW.PrintWords Go.Proofs.YtegcaniikdibdaaDoorW.PrintLast
open Go.ChangeMaps (open_string shut_string)
set_option linter.unusedVariables false
set_option linter.unusedSimpArgs false
theorem own : ownKnob Tryd.prog.godebug = none := by kernel_rfl
theorem laidOut : laidOutB Tryd.prog = true := by kernel_rfl
structure S67 where
  f0 : Int
  f1 : List ByteArray
  f2 : List ByteArray
  f3 : List Int
  f4 : Bool
def z67 : S67 := ⟨0, [], [], [], false⟩
def k67 : Kd S67 := Kd.iso (Kd.pair (Kd.int .i64) (Kd.pair (Kd.slice 9 Kd.string) (Kd.pair (Kd.slice 9 Kd.string) (Kd.pair (Kd.slice 3 (Kd.int .i64)) Kd.bool)))) (fun x : S67 => (x.f0, x.f1, x.f2, x.f3, x.f4))
theorem k67_open {w : World} {x : S67} {cs : List Value} (h : k67.K w x cs) : ∃ (A1 : Option Addr) (c1 : Nat) (A2 : Option Addr) (c2 : Nat) (A3 : Option Addr) (c3 : Nat), cs = [.int .i64 x.f0, .slice A1 x.f1.length c1, .slice A2 x.f2.length c2, .slice A3 x.f3.length c3, .bool x.f4] ∧ x.f1.length ≤ c1 ∧ Kd.C Kd.string w A1 x.f1.length x.f1 ∧ x.f2.length ≤ c2 ∧ Kd.C Kd.string w A2 x.f2.length x.f2 ∧ x.f3.length ≤ c3 ∧ Kd.C (Kd.int .i64) w A3 x.f3.length x.f3 := by
  obtain ⟨_, _, rfl, rfl, ⟨_, _, rfl, ⟨A1, c1, rfl, hc1, hr1⟩, ⟨_, _, rfl, ⟨A2, c2, rfl, hc2, hr2⟩, ⟨_, _, rfl, ⟨A3, c3, rfl, hc3, hr3⟩, rfl⟩⟩⟩⟩ := h
  exact ⟨A1, c1, A2, c2, A3, c3, rfl, hc1, hr1, hc2, hr2, hc3, hr3⟩
instance : Inhabited S67 := ⟨z67⟩
theorem came67 : Came 67 k67 (fun x => ((Lit.int .i64 x.f0).wf = true ∧ (x.f1.length * 16 ≤ 140737488351232 ∧ x.f1.length ≤ maxLen ∧ ∀ x_f1y ∈ x.f1, x_f1y.size ≤ 140737488351232) ∧ (x.f2.length * 16 ≤ 140737488351232 ∧ x.f2.length ≤ maxLen ∧ ∀ x_f2y ∈ x.f2, x_f2y.size ≤ 140737488351232) ∧ (x.f3.length * 8 ≤ 140737488351232 ∧ x.f3.length ≤ maxLen ∧ ∀ x_f3y ∈ x.f3, (Lit.int .i64 x_f3y).wf = true) ∧ True)) :=
  Came.iso _ (fun p => ⟨p.1, p.2.1, p.2.2.1, p.2.2.2.1, p.2.2.2.2⟩) (fun _ => rfl) (Came.struct Tryd.underlying67 rfl (by kernel_rfl) (CameFs.cons rfl (Came.int (t := 3) (k := .i64) Tryd.underlying3 (by kernel_rfl)) (CameFs.cons rfl (Came.slice (t := 42) (e := 9) (B := 16) Tryd.underlying42 (by kernel_rfl) (by kernel_rfl) (Came.string (t := 9) Tryd.underlying9 (by kernel_rfl))) (CameFs.cons rfl (Came.slice (t := 42) (e := 9) (B := 16) Tryd.underlying42 (by kernel_rfl) (by kernel_rfl) (Came.string (t := 9) Tryd.underlying9 (by kernel_rfl))) (CameFs.cons rfl (Came.slice (t := 33) (e := 3) (B := 8) Tryd.underlying33 (by kernel_rfl) (by kernel_rfl) (Came.int (t := 3) (k := .i64) Tryd.underlying3 (by kernel_rfl))) (CameFs.one rfl (Came.bool (t := 4) Tryd.underlying4 (by kernel_rfl))))))))
/-- An array of whole numbers that is laid: its cells. -/
theorem laid_ints {t e : TypeId} {k : IntKind} {m : Nat} {l : List Int} {base fuel : Nat} {spare : Nat → Bool} {held : Bool} {w : World} {cs : List Value} {p : List MemPlace} (ht : Tryd.prog.underlying t = some (.array m e)) (he : Tryd.prog.underlying e = some (.int k)) (hce : Tryd.prog.cellsOf e = 1)
    (h : DataW.trod (fun _ => ()) Tryd.prog w base spare held fuel t cs = some (.agg (l.map fun x => .lit (.int k x)), p)) : ∀ (i : Nat) (hi : i < l.length), cs[i]? = some (.int k l[i]) := by
  obtain ⟨xs, m1, rfl, hx1, hlen, hn, hel⟩ := DataW.trod_array ht h
  simp only [Prod.mk.injEq, DataW.agg.injEq] at hx1
  have hl : xs.length = l.length := by have := congrArg List.length hx1.1; simpa using this.symm
  intro i hi
  have h0 := hel i (by omega)
  rw [hce, Nat.mul_one, List.getElem?_eq_getElem (by omega)] at h0
  obtain ⟨y, e1, e2, _⟩ := DataW.trod_int he h0
  have e3 : (xs.map (·.1))[i]? = (l.map fun x => (.lit (.int k x) : DataW Unit))[i]? := by rw [← hx1.1]
  rw [List.getElem?_map, List.getElem?_map, List.getElem?_eq_getElem (by omega), List.getElem?_eq_getElem hi, Option.map_some, Option.map_some, e2] at e3
  have hy : y = l[i] := by simpa using e3
  have e4 : ((cs.drop i).take 1)[0]? = some (.int k y) := by rw [e1]; rfl
  rw [List.getElem?_take_of_lt (by decide), List.getElem?_drop, Nat.add_zero] at e4
  rw [e4, hy]
theorem of_laid {W : World} (h : laidMetH Tryd.prog Rows.pageApartRow.laid W) : Laid W := by
  have h' : laidMet Tryd.prog [("unicode/utf8.acceptRanges", Rows.laid_unicode_utf8_acceptRanges), ("posthorse/mark.nibbles", Rows.laid_posthorse_mark_nibbles), ("unicode/utf8.first", Rows.laid_unicode_utf8_first)] W ∧ True := ⟨by have h2 := h; rw [MakeChecks.laidMetH_plain _ _ _ (by kernel_rfl)] at h2; exact h2, trivial⟩
  obtain ⟨⟨ps, ⟨g0, t0, cs0, f0, p0, q0, hg0, ht0, hv0, hd0, ⟨g1, t1, cs1, f1, p1, q1, hg1, ht1, hv1, hd1, ⟨g2, t2, cs2, f2, p2, q2, hg2, ht2, hv2, hd2, _, _⟩, _⟩, _⟩, _, _⟩, hh⟩ := h'
  obtain rfl := Option.some.inj ((show Tryd.prog.globalNamed "posthorse/mark.nibbles" = some 2 by kernel_rfl).symm.trans hg1)
  obtain rfl := Option.some.inj ((show (Tryd.prog.globals[2]?).map (·.type) = some 195 by kernel_rfl).symm.trans ht1)
  have hn := laid_ints (l := [0, 274646895, 549293790, 820201905, 1098587580, 1361435347, 1640403810, 1905808397, 2197175160, 2460548119, 2722870694, 2987750089, 3280807620, 3553878443, 3811616794, 4084100981]) Tryd.underlying195 Tryd.underlying175 (by kernel_rfl) hd1
  have hnib : ∀ i : Nat, i < 16 → W.cell? ⟨2, i, none⟩ = some (.int .u32 ([0, 274646895, 549293790, 820201905, 1098587580, 1361435347, 1640403810, 1905808397, 2197175160, 2460548119, 2722870694, 2987750089, 3280807620, 3553878443, 3811616794, 4084100981].getD i 0 : Nat)) := by
    intro i hi
    have h1 := World.var?_cell hg1 hv1 i
    have h2 := hn i hi
    rw [← Array.getElem?_toList] at h1
    rw [h1, h2]
    congr 2
    clear h1 h2
    revert hi
    revert i
    decide
  exact ⟨trivial, hnib, trivial⟩
/-- The start: the door's own heap, the listed tables laid. -/
noncomputable def wit (os : Os) : World := (World.doorLaid Tryd.prog 400 os).layVars Tryd.prog [("unicode/utf8.acceptRanges", Rows.laid_unicode_utf8_acceptRanges), ("posthorse/mark.nibbles", Rows.laid_posthorse_mark_nibbles), ("unicode/utf8.first", Rows.laid_unicode_utf8_first)]
theorem door_met (os : Os) (args : Array Value) : laidMetH Tryd.prog Rows.pageApartRow.laid ((wit os).forCall (fun _ _ => 0) ⟨#[], args, []⟩).memory := by
  have e : (Rows.pageApartRow.laid.filter fun x => x.2.handleName?.isNone) = [("unicode/utf8.acceptRanges", Rows.laid_unicode_utf8_acceptRanges), ("posthorse/mark.nibbles", Rows.laid_posthorse_mark_nibbles), ("unicode/utf8.first", Rows.laid_unicode_utf8_first)] := by kernel_rfl
  have e1 : (([("unicode/utf8.acceptRanges", Rows.laid_unicode_utf8_acceptRanges), ("posthorse/mark.nibbles", Rows.laid_posthorse_mark_nibbles), ("unicode/utf8.first", Rows.laid_unicode_utf8_first)] : List (String × DataW Unit)).filter fun x => (([("unicode/utf8.acceptRanges", Rows.laid_unicode_utf8_acceptRanges), ("posthorse/mark.nibbles", Rows.laid_posthorse_mark_nibbles), ("unicode/utf8.first", Rows.laid_unicode_utf8_first)] : List (String × DataW Unit)).map (·.1)).contains x.1) = [("unicode/utf8.acceptRanges", Rows.laid_unicode_utf8_acceptRanges), ("posthorse/mark.nibbles", Rows.laid_posthorse_mark_nibbles), ("unicode/utf8.first", Rows.laid_unicode_utf8_first)] := by kernel_rfl
  have e2 : (([("unicode/utf8.acceptRanges", Rows.laid_unicode_utf8_acceptRanges), ("posthorse/mark.nibbles", Rows.laid_posthorse_mark_nibbles), ("unicode/utf8.first", Rows.laid_unicode_utf8_first)] : List (String × DataW Unit)).filter fun x => !(([("unicode/utf8.acceptRanges", Rows.laid_unicode_utf8_acceptRanges), ("posthorse/mark.nibbles", Rows.laid_posthorse_mark_nibbles), ("unicode/utf8.first", Rows.laid_unicode_utf8_first)] : List (String × DataW Unit)).map (·.1)).contains x.1) = [] := by kernel_rfl
  have hm : laidMet Tryd.prog [("unicode/utf8.acceptRanges", Rows.laid_unicode_utf8_acceptRanges), ("posthorse/mark.nibbles", Rows.laid_posthorse_mark_nibbles), ("unicode/utf8.first", Rows.laid_unicode_utf8_first)] (wit os) := laidMet_layVars (w0 := World.doorLaid Tryd.prog 400 os) (([("unicode/utf8.acceptRanges", Rows.laid_unicode_utf8_acceptRanges), ("posthorse/mark.nibbles", Rows.laid_posthorse_mark_nibbles), ("unicode/utf8.first", Rows.laid_unicode_utf8_first)] : List (String × DataW Unit)).map (·.1)) [] (by rw [e1]; rfl) (by rw [e1]; kernel_rfl) (by rw [e1]; kernel_rfl) (by rw [e2]; exact LaidIn.none)
  refine laidMetH_of_parts3 (fuel := 8) ?_ (by kernel_rfl) (by kernel_rfl)
  rw [e]
  exact hm.of_heap (by simp [World.memory, World.forCall, Input.heap])
set_option maxRecDepth 100000 in
theorem lifted (os : Os) (started : os.Started) (H : Type) (enc : TypeId × Value → H) :
    ReturnsInHanded {} Tryd.checked os 8 .any (fun w args => (Rows.pageApartSpec.pre enc Tryd.prog Tryd.f8 [] false w args ∧ laidMetH Tryd.prog Rows.pageApartRow.laid w) ∧ sizedMet enc Tryd.prog Tryd.f8 (OpenSpec.ofChange Rows.pageApartSpec) false w args)
      (Rows.pageApartSpec.post enc Tryd.prog Tryd.f8 false true false false) := by
  refine returnsInHanded_of_change_and (C := Tryd.checked) (X := fun w _ => laidMetH Tryd.prog Rows.pageApartRow.laid w) (fun _ _ _ hh h => h.of_heap hh) own started (by kernel_rfl) Tryd.func8
    (ChangeSpec.witness_shaped (enc := enc) (C := Tryd.checked) (os := os) (X := fun w _ => laidMetH Tryd.prog Rows.pageApartRow.laid w) false (wit os) #[.agg #[.int .i64 0, .slice none 0 0, .slice none 0 0, .slice none 0 0, .bool false], .agg #[.int .i64 0, .slice none 0 0, .slice none 0 0, .slice none 0 0, .bool false]] 8 (World.layVars_os _ _ _) (World.shaped_of_ZipB (by kernel_rfl) (by kernel_rfl)) (by kernel_rfl) (by kernel_rfl) (by kernel_rfl) (door_met os _)) ?_
  intro W base args ds gs before hval0 hW hcnd hsz0 hL _
  have hsz : (DataW.weightsEach Tryd.prog (Tryd.f8.params.toList ++ Rows.pageApartSpec.plain.varTypes Tryd.prog) (ds ++ gs)).all (· ≤ reachBytes) = true := hsz0
  have hval : ∀ (j : Nat) t v, Tryd.f8.params[j]? = some t → args[j]? = some v → Value.okWide Tryd.prog W .any base t v := hval0
  have hW' := hW
  obtain ⟨p, q, hA0, hV, rfl, hfz, hnd⟩ := hW
  have hA : DataW.TrodAll enc Tryd.prog W 0 (fun _ => true) true Tryd.f8.params.toList args.toList ds p := hA0
  rw [Tryd.params8] at hA hval hsz
  obtain ⟨v0, vs0, d0, ds0, p0, q0, hargs, rfl, rfl, h0, r0⟩ := trodAll_cons hA
  obtain ⟨v1, vs1, d1, ds1, p1, q1, rfl, rfl, rfl, h1, r1⟩ := trodAll_cons r0
  obtain ⟨rfl, rfl, rfl⟩ := trodAll_nil r1
  obtain rfl : args = #[v0, v1] := by cases args; simp_all
  obtain ⟨vs0_, rfl, hvs0⟩ : ∃ cs, v0 = .agg cs ∧ cs.size = Tryd.prog.cellsOf 67 := by
    have z := (hval 0 67 v0 rfl rfl)
    simp only [Value.okWide, Tryd.underlying67] at z
    obtain ⟨cs, h1, h2, _⟩ := z
    exact ⟨cs, h1, h2⟩
  have k0 := h0
  have lt0 : ∀ x ∈ p0, x.block < W.heap.size := by obtain ⟨m, hm⟩ := k0; exact DataW.trod_lt m _ _ _ hm
  obtain ⟨x0, hx0, ok0⟩ := (let ⟨_, hf⟩ := h0; Came.read came67 hf (weights_arg hsz (j := 0) (t := 67) rfl rfl))
  obtain ⟨A0_1, c0_1, A0_2, c0_2, A0_3, c0_3, hy0, hc0_1, hr0_1, hc0_2, hr0_2, hc0_3, hr0_3⟩ := k67_open hx0
  have hz0 : vs0_ = #[.int .i64 x0.f0, .slice A0_1 x0.f1.length c0_1, .slice A0_2 x0.f2.length c0_2, .slice A0_3 x0.f3.length c0_3, .bool x0.f4] := by
    apply Array.toList_inj.1
    simpa [Value.cells] using hy0
  subst hz0
  obtain ⟨vs1_, rfl, hvs1⟩ : ∃ cs, v1 = .agg cs ∧ cs.size = Tryd.prog.cellsOf 67 := by
    have z := (hval 1 67 v1 rfl rfl)
    simp only [Value.okWide, Tryd.underlying67] at z
    obtain ⟨cs, h1, h2, _⟩ := z
    exact ⟨cs, h1, h2⟩
  have k1 := h1
  have lt1 : ∀ x ∈ p1, x.block < W.heap.size := by obtain ⟨m, hm⟩ := k1; exact DataW.trod_lt m _ _ _ hm
  obtain ⟨x1, hx1, ok1⟩ := (let ⟨_, hf⟩ := h1; Came.read came67 hf (weights_arg hsz (j := 1) (t := 67) rfl rfl))
  obtain ⟨A1_1, c1_1, A1_2, c1_2, A1_3, c1_3, hy1, hc1_1, hr1_1, hc1_2, hr1_2, hc1_3, hr1_3⟩ := k67_open hx1
  have hz1 : vs1_ = #[.int .i64 x1.f0, .slice A1_1 x1.f1.length c1_1, .slice A1_2 x1.f2.length c1_2, .slice A1_3 x1.f3.length c1_3, .bool x1.f4] := by
    apply Array.toList_inj.1
    simpa [Value.cells] using hy1
  subst hz1
  obtain ⟨rfl, rfl⟩ := trodVars_none hV
  clear hA0 hval0 hsz0
  obtain ⟨k, hk⟩ := Pure.PageApart (x0.f0) (x0.f1) (x0.f2) (x0.f3) (x0.f4) (x1.f0) (x1.f1) (x1.f2) (x1.f3) (x1.f4) ok0.1 ok0.2.1 ok0.2.2.1 ok0.2.2.2.1 ok1.1 ok1.2.1 ok1.2.2.1 ok1.2.2.2.1
  have hcall := posthorselaw11_PageApart.calls k (x0.f0) A0_1 c0_1 (x0.f1) A0_2 c0_2 (x0.f2) A0_3 c0_3 (x0.f3) (x0.f4) (x1.f0) A1_1 c1_1 (x1.f1) A1_2 c1_2 (x1.f2) A1_3 c1_3 (x1.f3) (x1.f4) true W (of_laid hL) hr0_1 hc0_1 hr0_2 hc0_2 hr0_3 hc0_3 hr1_1 hc1_1 hr1_2 hc1_2 hr1_3 hc1_3 hk
  refine hcall.mono fun e W' ⟨he, bel0⟩ => ?_
  have bel : Below W.heap.size W W' := bel0
  subst he
  exact ⟨_, rfl, _, _, _, [], _, [], hW', trodAll_mk1 (shut_bool Tryd.underlying4 _), (trodAll_cons_mk (Below.trod laidOut (by kernel_rfl) (of_decide_eq_true (by kernel_rfl)) k0 bel lt0) (trodAll_cons_mk (Below.trod laidOut (by kernel_rfl) (of_decide_eq_true (by kernel_rfl)) k1 bel lt1) trodAll_mk0)), rfl, bel.frame _, fun h => by cases h⟩
theorem over : Rows.pageApartRow.holds Tryd.pinned (OpenSpec.ofChange Rows.pageApartSpec) :=
  OpenClaim.holds_of_wide 8 Tryd.f8 rfl rfl rfl rfl rfl rfl rfl ⟨rfl, rfl, rfl, rfl, rfl⟩ rfl rfl rfl rfl rfl (by kernel_rfl) Tryd.func8 (by kernel_rfl)
    (of_decide_eq_true (by kernel_rfl)) (by unfold Func.isWrapper; first | (rw [if_pos (by decide +kernel)]; kernel_rfl) | (rw [if_neg (by decide +kernel)]; exact ⟨rfl, rfl⟩))
    (fun os started H enc _ => lifted os started H enc)
theorem proved : Rows.PageApartCardSaid :=
  Claim7.holds_tied_plain_at .later [] [.data, .data, .pinned] true (true, "3cd269889507c6a98a65b8837f083d7164d503e5e9cdf7962529a41e75074549") true
    over (fun _ h => by cases h) (by kernel_rfl) (fun _ h => by cases h) pageApart_row_tie rfl ⟨rfl, rfl⟩ (by kernel_rfl) rfl
    (fun f fn hf hfn => by
      obtain rfl : f = 8 := Option.some.inj ((show Tryd.prog.funcNamed "posthorse/posthorselaw11.PageApart" = some 8 by kernel_rfl).symm.trans hf) |>.symm
      obtain rfl : fn = Tryd.f8 := (Option.some.inj (Tryd.func8.symm.trans hfn)).symm
      exact ⟨by kernel_rfl, fun j t ht => by
        rw [Tryd.params8] at ht
        have hm : t ∈ ([67, 67] : List TypeId) := by
          simpa using Array.mem_of_getElem? ht
        have hall : (([67, 67] : List TypeId).all fun u => !Tryd.prog.wantsStandIn u) = true := by kernel_rfl
        exact (show Tryd.prog.wantsStandIn t = false by simpa using List.all_eq_true.1 hall t hm)⟩)
    (by kernel_rfl)
#print axioms proved
end Go.Proofs.YtegcaniikdibdaaDoor.pageApart
namespace Go.Proofs.YtegcaniikdibdaaDoor
/-- The row, under a short name, for the claim. -/
theorem pageApart_holds : Rows.PageApartCardSaid := pageApart.proved
end Go.Proofs.YtegcaniikdibdaaDoor
