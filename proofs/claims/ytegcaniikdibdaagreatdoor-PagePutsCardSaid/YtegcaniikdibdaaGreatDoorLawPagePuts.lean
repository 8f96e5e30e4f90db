/- PagePuts: whatever the input, the law returns true and the input reads as it did; out of the pure law (YtegcaniikdibdaaGreatDoorPurePagePuts) and the walk of the function. -/
import Derived.Test.YtegcaniikdibdaaGreatDoorRows
import Derived.Test.YtegcaniikdibdaaGreatDoorPurePagePuts
import Derived.Test.YtegcaniikdibdaaGreatDoorTie
import Derived.Test.YtegcaniikdibdaaGreatDoorCards
import Derived.Test.YtegcaniikdibdaaGreatDoorVPagePutsx11
import Derived.WalkKit
import Derived.ProofKit
import Derived.OpenShut
import Derived.ShutString
import Derived.ChangeOld
import Derived.Below
import Derived.SizedLaws
import Derived.Carry
import Derived.LaidMore
import Derived.Lay
import Derived.LaidHandle
import Derived.LaidLaws
import Derived.MakeChecks
import Derived.Stop.Joined
import Derived.JoinedOf
import Derived.SevenTiedAt
import Derived.FnData
namespace Go.Proofs.YtegcaniikdibdaaGreatDoor.pagePuts
open Go.ChangeShapes Go.WideShapes Go.ChangeAt Go.RowKit Go.Proofs.YtegcaniikdibdaaGreatDoor.VPagePuts Go.Proofs.YtegcaniikdibdaaGreatDoorW.PrintWords Go.Proofs.YtegcaniikdibdaaGreatDoorW.PrintLast
open Go.ChangeMaps (open_string shut_string)
set_option linter.unusedVariables false
set_option linter.unusedSimpArgs false
theorem own : ownKnob Tryz.prog.godebug = none := by kernel_rfl
theorem laidOut : laidOutB Tryz.prog = true := by kernel_rfl
structure S25 where
  f0 : Int
  f1 : List ByteArray
  f2 : List ByteArray
  f3 : List Int
  f4 : Bool
def z25 : S25 := ⟨0, [], [], [], false⟩
def k25 : Kd S25 := Kd.iso (Kd.pair (Kd.int .i64) (Kd.pair (Kd.slice 9 Kd.string) (Kd.pair (Kd.slice 9 Kd.string) (Kd.pair (Kd.slice 3 (Kd.int .i64)) Kd.bool)))) (fun x : S25 => (x.f0, x.f1, x.f2, x.f3, x.f4))
theorem k25_open {w : World} {x : S25} {cs : List Value} (h : k25.K w x cs) : ∃ (A1 : Option Addr) (c1 : Nat) (A2 : Option Addr) (c2 : Nat) (A3 : Option Addr) (c3 : Nat), cs = [.int .i64 x.f0, .slice A1 x.f1.length c1, .slice A2 x.f2.length c2, .slice A3 x.f3.length c3, .bool x.f4] ∧ x.f1.length ≤ c1 ∧ Kd.C Kd.string w A1 x.f1.length x.f1 ∧ x.f2.length ≤ c2 ∧ Kd.C Kd.string w A2 x.f2.length x.f2 ∧ x.f3.length ≤ c3 ∧ Kd.C (Kd.int .i64) w A3 x.f3.length x.f3 := by
  obtain ⟨_, _, rfl, rfl, ⟨_, _, rfl, ⟨A1, c1, rfl, hc1, hr1⟩, ⟨_, _, rfl, ⟨A2, c2, rfl, hc2, hr2⟩, ⟨_, _, rfl, ⟨A3, c3, rfl, hc3, hr3⟩, rfl⟩⟩⟩⟩ := h
  exact ⟨A1, c1, A2, c2, A3, c3, rfl, hc1, hr1, hc2, hr2, hc3, hr3⟩
instance : Inhabited S25 := ⟨z25⟩
theorem came25 : Came 25 k25 (fun x => ((Lit.int .i64 x.f0).wf = true ∧ (x.f1.length * 16 ≤ 140737488351232 ∧ x.f1.length ≤ maxLen ∧ ∀ x_f1y ∈ x.f1, x_f1y.size ≤ 140737488351232) ∧ (x.f2.length * 16 ≤ 140737488351232 ∧ x.f2.length ≤ maxLen ∧ ∀ x_f2y ∈ x.f2, x_f2y.size ≤ 140737488351232) ∧ (x.f3.length * 8 ≤ 140737488351232 ∧ x.f3.length ≤ maxLen ∧ ∀ x_f3y ∈ x.f3, (Lit.int .i64 x_f3y).wf = true) ∧ True)) :=
  Came.iso _ (fun p => ⟨p.1, p.2.1, p.2.2.1, p.2.2.2.1, p.2.2.2.2⟩) (fun _ => rfl) (Came.struct Tryz.underlying25 rfl (by kernel_rfl) (CameFs.cons rfl (Came.int (t := 3) (k := .i64) Tryz.underlying3 (by kernel_rfl)) (CameFs.cons rfl (Came.slice (t := 22) (e := 9) (B := 16) Tryz.underlying22 (by kernel_rfl) (by kernel_rfl) (Came.string (t := 9) Tryz.underlying9 (by kernel_rfl))) (CameFs.cons rfl (Came.slice (t := 22) (e := 9) (B := 16) Tryz.underlying22 (by kernel_rfl) (by kernel_rfl) (Came.string (t := 9) Tryz.underlying9 (by kernel_rfl))) (CameFs.cons rfl (Came.slice (t := 23) (e := 3) (B := 8) Tryz.underlying23 (by kernel_rfl) (by kernel_rfl) (Came.int (t := 3) (k := .i64) Tryz.underlying3 (by kernel_rfl))) (CameFs.one rfl (Came.bool (t := 4) Tryz.underlying4 (by kernel_rfl))))))))
/-- An array of whole numbers that is laid: its cells. -/
theorem laid_ints {t e : TypeId} {k : IntKind} {m : Nat} {l : List Int} {base fuel : Nat} {spare : Nat → Bool} {held : Bool} {w : World} {cs : List Value} {p : List MemPlace} (ht : Tryz.prog.underlying t = some (.array m e)) (he : Tryz.prog.underlying e = some (.int k)) (hce : Tryz.prog.cellsOf e = 1)
    (h : DataW.trod (fun _ => ()) Tryz.prog w base spare held fuel t cs = some (.agg (l.map fun x => .lit (.int k x)), p)) : ∀ (i : Nat) (hi : i < l.length), cs[i]? = some (.int k l[i]) := by
  obtain ⟨xs, m1, rfl, hx1, hlen, hn, hel⟩ := DataW.trod_array ht h
  simp only [Prod.mk.injEq, DataW.agg.injEq] at hx1
  have hl : xs.length = l.length := by have := congrArg List.length hx1.1; simpa using this.symm
  intro i hi
  have h0 := hel i (by omega)
  rw [hce, Nat.mul_one, List.getElem?_eq_getElem (by omega)] at h0
  obtain ⟨y, e1, e2, _⟩ := DataW.trod_int he h0
  have e3 : (xs.map (·.1))[i]? = (l.map fun x => (.lit (.int k x) : DataW Unit))[i]? := by rw [← hx1.1]
  rw [List.getElem?_map, List.getElem?_map, List.getElem?_eq_getElem (by omega), List.getElem?_eq_getElem hi, Option.map_some, Option.map_some, e2] at e3
  have hy : y = l[i] := by simpa using e3
  have e4 : ((cs.drop i).take 1)[0]? = some (.int k y) := by rw [e1]; rfl
  rw [List.getElem?_take_of_lt (by decide), List.getElem?_drop, Nat.add_zero] at e4
  rw [e4, hy]
theorem of_laid {W : World} (h : laidMetH Tryz.prog Rows.pagePutsRow.laid W) : Laid W := by
  have h' : laidMet Tryz.prog [("unicode/utf8.acceptRanges", Rows.laid_unicode_utf8_acceptRanges), ("posthorse/mark.nibbles", Rows.laid_posthorse_mark_nibbles), ("unicode/utf8.first", Rows.laid_unicode_utf8_first)] W ∧ handlesMet Tryz.prog [("errors.errorType", Rows.laid_errors_errorType)] W := h
  obtain ⟨⟨ps, ⟨g0, t0, cs0, f0, p0, q0, hg0, ht0, hv0, hd0, ⟨g1, t1, cs1, f1, p1, q1, hg1, ht1, hv1, hd1, ⟨g2, t2, cs2, f2, p2, q2, hg2, ht2, hv2, hd2, _, _⟩, _⟩, _⟩, _, _⟩, hh⟩ := h'
  have hE : W.cell? ⟨0, 0, none⟩ = some (.iface 130 (.agg #[.pointer (some ⟨5, 33, none⟩)])) := by
    obtain ⟨name, u, ty, e1, e2, e3, e4, e5⟩ := hh _ (List.mem_singleton.2 rfl)
    have en : name = [101, 114, 114, 111, 114] := (Option.some.inj e1).symm
    subst en
    obtain rfl := Option.some.inj ((show (Tryz.prog.cutTypes.find? (·.1 == "internal/reflectlite.rtype")).map (·.2) = some 130 by kernel_rfl).symm.trans e2)
    have hm : ty ∈ (List.range 182).filter fun t => Tryz.prog.rowNamed t [101, 114, 114, 111, 114] := List.mem_filter.2 ⟨List.mem_range.2 (by rw [← show Tryz.prog.types.size = 182 by kernel_rfl]; exact e3), e4⟩
    rw [show ((List.range 182).filter fun t => Tryz.prog.rowNamed t [101, 114, 114, 111, 114]) = [33] by kernel_rfl] at hm
    obtain rfl := List.mem_singleton.1 hm
    rw [show typeHandle Tryz.prog 33 = .pointer (some ⟨5, 33, none⟩) by kernel_rfl] at e5
    simpa using World.var?_cell (show Tryz.prog.globalNamed "errors.errorType" = some 0 by kernel_rfl) e5 0
  obtain rfl := Option.some.inj ((show Tryz.prog.globalNamed "posthorse/mark.nibbles" = some 1 by kernel_rfl).symm.trans hg1)
  obtain rfl := Option.some.inj ((show (Tryz.prog.globals[1]?).map (·.type) = some 128 by kernel_rfl).symm.trans ht1)
  have hn := laid_ints (l := [0, 274646895, 549293790, 820201905, 1098587580, 1361435347, 1640403810, 1905808397, 2197175160, 2460548119, 2722870694, 2987750089, 3280807620, 3553878443, 3811616794, 4084100981]) Tryz.underlying128 Tryz.underlying84 (by kernel_rfl) hd1
  have hnib : ∀ i : Nat, i < 16 → W.cell? ⟨1, i, none⟩ = some (.int .u32 ([0, 274646895, 549293790, 820201905, 1098587580, 1361435347, 1640403810, 1905808397, 2197175160, 2460548119, 2722870694, 2987750089, 3280807620, 3553878443, 3811616794, 4084100981].getD i 0 : Nat)) := by
    intro i hi
    have h1 := World.var?_cell hg1 hv1 i
    have h2 := hn i hi
    rw [← Array.getElem?_toList] at h1
    rw [h1, h2]
    congr 2
    clear h1 h2
    revert hi
    revert i
    decide
  exact ⟨trivial, hE, hnib, trivial⟩
/-- The start: the door's own heap, the listed tables laid. -/
noncomputable def wit (os : Os) : World := (World.doorLaid Tryz.prog 400 os).layVars Tryz.prog [("unicode/utf8.acceptRanges", Rows.laid_unicode_utf8_acceptRanges), ("posthorse/mark.nibbles", Rows.laid_posthorse_mark_nibbles), ("unicode/utf8.first", Rows.laid_unicode_utf8_first)]
theorem door_met (os : Os) (args : Array Value) : laidMetH Tryz.prog Rows.pagePutsRow.laid ((wit os).forCall (fun _ _ => 0) ⟨#[], args, []⟩).memory := by
  have e : (Rows.pagePutsRow.laid.filter fun x => x.2.handleName?.isNone) = [("unicode/utf8.acceptRanges", Rows.laid_unicode_utf8_acceptRanges), ("posthorse/mark.nibbles", Rows.laid_posthorse_mark_nibbles), ("unicode/utf8.first", Rows.laid_unicode_utf8_first)] := by kernel_rfl
  have e1 : (([("unicode/utf8.acceptRanges", Rows.laid_unicode_utf8_acceptRanges), ("posthorse/mark.nibbles", Rows.laid_posthorse_mark_nibbles), ("unicode/utf8.first", Rows.laid_unicode_utf8_first)] : List (String × DataW Unit)).filter fun x => (([("unicode/utf8.acceptRanges", Rows.laid_unicode_utf8_acceptRanges), ("posthorse/mark.nibbles", Rows.laid_posthorse_mark_nibbles), ("unicode/utf8.first", Rows.laid_unicode_utf8_first)] : List (String × DataW Unit)).map (·.1)).contains x.1) = [("unicode/utf8.acceptRanges", Rows.laid_unicode_utf8_acceptRanges), ("posthorse/mark.nibbles", Rows.laid_posthorse_mark_nibbles), ("unicode/utf8.first", Rows.laid_unicode_utf8_first)] := by kernel_rfl
  have e2 : (([("unicode/utf8.acceptRanges", Rows.laid_unicode_utf8_acceptRanges), ("posthorse/mark.nibbles", Rows.laid_posthorse_mark_nibbles), ("unicode/utf8.first", Rows.laid_unicode_utf8_first)] : List (String × DataW Unit)).filter fun x => !(([("unicode/utf8.acceptRanges", Rows.laid_unicode_utf8_acceptRanges), ("posthorse/mark.nibbles", Rows.laid_posthorse_mark_nibbles), ("unicode/utf8.first", Rows.laid_unicode_utf8_first)] : List (String × DataW Unit)).map (·.1)).contains x.1) = [] := by kernel_rfl
  have hm : laidMet Tryz.prog [("unicode/utf8.acceptRanges", Rows.laid_unicode_utf8_acceptRanges), ("posthorse/mark.nibbles", Rows.laid_posthorse_mark_nibbles), ("unicode/utf8.first", Rows.laid_unicode_utf8_first)] (wit os) := laidMet_layVars (w0 := World.doorLaid Tryz.prog 400 os) (([("unicode/utf8.acceptRanges", Rows.laid_unicode_utf8_acceptRanges), ("posthorse/mark.nibbles", Rows.laid_posthorse_mark_nibbles), ("unicode/utf8.first", Rows.laid_unicode_utf8_first)] : List (String × DataW Unit)).map (·.1)) [] (by rw [e1]; rfl) (by rw [e1]; kernel_rfl) (by rw [e1]; kernel_rfl) (by rw [e2]; exact LaidIn.none)
  refine laidMetH_of_parts3 (fuel := 8) ?_ (by kernel_rfl) (by kernel_rfl)
  rw [e]
  exact hm.of_heap (by simp [World.memory, World.forCall, Input.heap])
set_option maxRecDepth 100000 in
theorem lifted (os : Os) (started : os.Started) (H : Type) (enc : TypeId × Value → H) :
    ReturnsInHanded {} Tryz.checked os 3 .any (fun w args => (Rows.pagePutsSpec.pre enc Tryz.prog Tryz.f3 [] false w args ∧ laidMetH Tryz.prog Rows.pagePutsRow.laid w) ∧ sizedMet enc Tryz.prog Tryz.f3 (OpenSpec.ofChange Rows.pagePutsSpec) false w args)
      (Rows.pagePutsSpec.post enc Tryz.prog Tryz.f3 false true false false) := by
  refine returnsInHanded_of_change_and (C := Tryz.checked) (X := fun w _ => laidMetH Tryz.prog Rows.pagePutsRow.laid w) (fun _ _ _ hh h => h.of_heap hh) own started (by kernel_rfl) Tryz.func3
    (ChangeSpec.witness_shaped (enc := enc) (C := Tryz.checked) (os := os) (X := fun w _ => laidMetH Tryz.prog Rows.pagePutsRow.laid w) false (wit os) #[.agg #[.int .i64 0, .slice none 0 0, .slice none 0 0, .slice none 0 0, .bool false]] 8 (World.layVars_os _ _ _) (World.shaped_of_ZipB (by kernel_rfl) (by kernel_rfl)) (by kernel_rfl) (by kernel_rfl) (by kernel_rfl) (door_met os _)) ?_
  intro W base args ds gs before hval0 hW hcnd hsz0 hL _
  have hsz : (DataW.weightsEach Tryz.prog (Tryz.f3.params.toList ++ Rows.pagePutsSpec.plain.varTypes Tryz.prog) (ds ++ gs)).all (· ≤ reachBytes) = true := hsz0
  have hval : ∀ (j : Nat) t v, Tryz.f3.params[j]? = some t → args[j]? = some v → Value.okWide Tryz.prog W .any base t v := hval0
  have hW' := hW
  obtain ⟨p, q, hA0, hV, rfl, hfz, hnd⟩ := hW
  have hA : DataW.TrodAll enc Tryz.prog W 0 (fun _ => true) true Tryz.f3.params.toList args.toList ds p := hA0
  rw [Tryz.params3] at hA hval hsz
  obtain ⟨v0, vs0, d0, ds0, p0, q0, hargs, rfl, rfl, h0, r0⟩ := trodAll_cons hA
  obtain ⟨rfl, rfl, rfl⟩ := trodAll_nil r0
  obtain rfl : args = #[v0] := by cases args; simp_all
  obtain ⟨vs0_, rfl, hvs0⟩ : ∃ cs, v0 = .agg cs ∧ cs.size = Tryz.prog.cellsOf 25 := by
    have z := (hval 0 25 v0 rfl rfl)
    simp only [Value.okWide, Tryz.underlying25] at z
    obtain ⟨cs, h1, h2, _⟩ := z
    exact ⟨cs, h1, h2⟩
  have k0 := h0
  have lt0 : ∀ x ∈ p0, x.block < W.heap.size := by obtain ⟨m, hm⟩ := k0; exact DataW.trod_lt m _ _ _ hm
  obtain ⟨x0, hx0, ok0⟩ := (let ⟨_, hf⟩ := h0; Came.read came25 hf (weights_arg hsz (j := 0) (t := 25) rfl rfl))
  obtain ⟨A0_1, c0_1, A0_2, c0_2, A0_3, c0_3, hy0, hc0_1, hr0_1, hc0_2, hr0_2, hc0_3, hr0_3⟩ := k25_open hx0
  have hz0 : vs0_ = #[.int .i64 x0.f0, .slice A0_1 x0.f1.length c0_1, .slice A0_2 x0.f2.length c0_2, .slice A0_3 x0.f3.length c0_3, .bool x0.f4] := by
    apply Array.toList_inj.1
    simpa [Value.cells] using hy0
  subst hz0
  obtain ⟨rfl, rfl⟩ := trodVars_none hV
  clear hA0 hval0 hsz0
  obtain ⟨k, hk⟩ := Pure.PagePuts (x0.f0) (x0.f1) (x0.f2) (x0.f3) (x0.f4) ok0.1 ok0.2.1 ok0.2.2.1 ok0.2.2.2.1
  have hcall := posthorselaw11_PagePuts.calls k (x0.f0) A0_1 c0_1 (x0.f1) A0_2 c0_2 (x0.f2) A0_3 c0_3 (x0.f3) (x0.f4) true W (of_laid hL) hr0_1 hc0_1 hr0_2 hc0_2 hr0_3 hc0_3 hk
  refine hcall.mono fun e W' ⟨he, bel0⟩ => ?_
  have bel : Below W.heap.size W W' := bel0
  subst he
  exact ⟨_, rfl, _, _, _, [], _, [], hW', trodAll_mk1 (shut_bool Tryz.underlying4 _), (trodAll_cons_mk (Below.trod laidOut (by kernel_rfl) (of_decide_eq_true (by kernel_rfl)) k0 bel lt0) trodAll_mk0), rfl, bel.frame _, fun h => by cases h⟩
theorem over : Rows.pagePutsRow.holds Tryz.pinned (OpenSpec.ofChange Rows.pagePutsSpec) :=
  OpenClaim.holds_of_wide 3 Tryz.f3 rfl rfl rfl rfl rfl rfl rfl ⟨rfl, rfl, rfl, rfl, rfl⟩ rfl rfl rfl rfl rfl (by kernel_rfl) Tryz.func3 (by kernel_rfl)
    (of_decide_eq_true (by kernel_rfl)) (by unfold Func.isWrapper; first | (rw [if_pos (by decide +kernel)]; kernel_rfl) | (rw [if_neg (by decide +kernel)]; exact ⟨rfl, rfl⟩))
    (fun os started H enc _ => lifted os started H enc)
theorem proved : Rows.PagePutsCardSaid :=
  Claim7.holds_tied_plain_at .later [] [.data, .handle, .data, .pinned] true (true, "4f6bc02624afe98beb8268b5caba4210614f815ffe79d2857cfa08a9e8a8ab98") true
    over (fun _ h => by cases h) (by kernel_rfl) (fun _ h => by cases h) pagePuts_row_tie rfl ⟨rfl, rfl⟩ (by kernel_rfl) rfl
    (fun f fn hf hfn => by
      obtain rfl : f = 3 := Option.some.inj ((show Tryz.prog.funcNamed "posthorse/posthorselaw11.PagePuts" = some 3 by kernel_rfl).symm.trans hf) |>.symm
      obtain rfl : fn = Tryz.f3 := (Option.some.inj (Tryz.func3.symm.trans hfn)).symm
      exact ⟨by kernel_rfl, fun j t ht => by
        rw [Tryz.params3] at ht
        have hm : t ∈ ([25] : List TypeId) := by
          simpa using Array.mem_of_getElem? ht
        have hall : (([25] : List TypeId).all fun u => !Tryz.prog.wantsStandIn u) = true := by kernel_rfl
        exact (show Tryz.prog.wantsStandIn t = false by simpa using List.all_eq_true.1 hall t hm)⟩)
    (by kernel_rfl)
#print axioms proved
end Go.Proofs.YtegcaniikdibdaaGreatDoor.pagePuts
namespace Go.Proofs.YtegcaniikdibdaaGreatDoor
/-- The row, under a short name, for the claim. -/
theorem pagePuts_holds : Rows.PagePutsCardSaid := pagePuts.proved
end Go.Proofs.YtegcaniikdibdaaGreatDoor
