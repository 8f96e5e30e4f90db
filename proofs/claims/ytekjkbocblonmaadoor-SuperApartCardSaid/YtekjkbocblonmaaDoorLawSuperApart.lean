/- SuperApart: whatever the input, the law returns true and the input reads as it did; out of the pure law (YtekjkbocblonmaaDoorPureSuperApart) and the walk of the function. -/
import Derived.Test.YtekjkbocblonmaaDoorRows
import Derived.Test.YtekjkbocblonmaaDoorPureSuperApart
import Derived.Test.YtekjkbocblonmaaDoorTie
import Derived.Test.YtekjkbocblonmaaDoorCards
import Derived.Test.YtekjkbocblonmaaDoorVSuperApartx7
import Derived.Test.YtekjkbocblonmaaDoorVSuperApartx8
import Derived.WalkKit
import Derived.ProofKit
import Derived.OpenShut
import Derived.ShutString
import Derived.ChangeOld
import Derived.Below
import Derived.SizedLaws
import Derived.Carry
import Derived.LaidMore
import Derived.LaidHandle
import Derived.LaidLaws
import Derived.MakeChecks
import Derived.Stop.Joined
import Derived.JoinedOf
import Derived.SevenTiedAt
import Derived.FnData
namespace Go.Proofs.YtekjkbocblonmaaDoor.superApart
open Go.ChangeShapes Go.WideShapes Go.ChangeAt Go.RowKit Go.Proofs.YtekjkbocblonmaaDoor.VSuperApart Go.Proofs.YtekjkbocblonmaaDoorW.PrintWords Go.Proofs.YtekjkbocblonmaaDoorW.PrintLast
open Go.ChangeMaps (open_string shut_string)
set_option linter.unusedVariables false
set_option linter.unusedSimpArgs false
theorem own : ownKnob Tryd.prog.godebug = none := by kernel_rfl
theorem laidOut : laidOutB Tryd.prog = true := by kernel_rfl
structure S22 where
  f0 : Int
  f1 : Int
def z22 : S22 := ⟨0, 0⟩
def k22 : Kd S22 := Kd.iso (Kd.pair (Kd.int .i64) (Kd.int .i64)) (fun x : S22 => (x.f0, x.f1))
theorem k22_open {w : World} {x : S22} {cs : List Value} (h : k22.K w x cs) : cs = [.int .i64 x.f0, .int .i64 x.f1] := by
  obtain ⟨_, _, rfl, rfl, rfl⟩ := h
  exact rfl
instance : Inhabited S22 := ⟨z22⟩
theorem came22 : Came 22 k22 (fun x => ((Lit.int .i64 x.f0).wf = true ∧ (Lit.int .i64 x.f1).wf = true)) :=
  Came.iso _ (fun p => ⟨p.1, p.2⟩) (fun _ => rfl) (Came.array (n := 2) Tryd.underlying22 (by kernel_rfl) (by kernel_rfl) (l := [0, 1]) rfl (CameAs.cons rfl (Came.int (t := 3) (k := .i64) Tryd.underlying3 (by kernel_rfl)) (CameAs.one rfl (Came.int (t := 3) (k := .i64) Tryd.underlying3 (by kernel_rfl)))))
/-- An array of whole numbers that is laid: its cells. -/
theorem laid_ints {t e : TypeId} {k : IntKind} {m : Nat} {l : List Int} {base fuel : Nat} {spare : Nat → Bool} {held : Bool} {w : World} {cs : List Value} {p : List MemPlace} (ht : Tryd.prog.underlying t = some (.array m e)) (he : Tryd.prog.underlying e = some (.int k)) (hce : Tryd.prog.cellsOf e = 1)
    (h : DataW.trod (fun _ => ()) Tryd.prog w base spare held fuel t cs = some (.agg (l.map fun x => .lit (.int k x)), p)) : ∀ (i : Nat) (hi : i < l.length), cs[i]? = some (.int k l[i]) := by
  obtain ⟨xs, m1, rfl, hx1, hlen, hn, hel⟩ := DataW.trod_array ht h
  simp only [Prod.mk.injEq, DataW.agg.injEq] at hx1
  have hl : xs.length = l.length := by have := congrArg List.length hx1.1; simpa using this.symm
  intro i hi
  have h0 := hel i (by omega)
  rw [hce, Nat.mul_one, List.getElem?_eq_getElem (by omega)] at h0
  obtain ⟨y, e1, e2, _⟩ := DataW.trod_int he h0
  have e3 : (xs.map (·.1))[i]? = (l.map fun x => (.lit (.int k x) : DataW Unit))[i]? := by rw [← hx1.1]
  rw [List.getElem?_map, List.getElem?_map, List.getElem?_eq_getElem (by omega), List.getElem?_eq_getElem hi, Option.map_some, Option.map_some, e2] at e3
  have hy : y = l[i] := by simpa using e3
  have e4 : ((cs.drop i).take 1)[0]? = some (.int k y) := by rw [e1]; rfl
  rw [List.getElem?_take_of_lt (by decide), List.getElem?_drop, Nat.add_zero] at e4
  rw [e4, hy]
theorem of_laid {W : World} (h : laidMetH Tryd.prog Rows.superApartRow.laid W) : Laid W := by
  have h' : laidMet Tryd.prog [("posthorse/mark.nibbles", Rows.laid_posthorse_mark_nibbles)] W ∧ True := ⟨by have h2 := h; rw [MakeChecks.laidMetH_plain _ _ _ (by kernel_rfl)] at h2; exact h2, trivial⟩
  obtain ⟨⟨ps, ⟨g0, t0, cs0, f0, p0, q0, hg0, ht0, hv0, hd0, _, _⟩, _, _⟩, hh⟩ := h'
  obtain rfl := Option.some.inj ((show Tryd.prog.globalNamed "posthorse/mark.nibbles" = some 1 by kernel_rfl).symm.trans hg0)
  obtain rfl := Option.some.inj ((show (Tryd.prog.globals[1]?).map (·.type) = some 122 by kernel_rfl).symm.trans ht0)
  have hn := laid_ints (l := [0, 274646895, 549293790, 820201905, 1098587580, 1361435347, 1640403810, 1905808397, 2197175160, 2460548119, 2722870694, 2987750089, 3280807620, 3553878443, 3811616794, 4084100981]) Tryd.underlying122 Tryd.underlying75 (by kernel_rfl) hd0
  have hnib : ∀ i : Nat, i < 16 → W.cell? ⟨1, i, none⟩ = some (.int .u32 ([0, 274646895, 549293790, 820201905, 1098587580, 1361435347, 1640403810, 1905808397, 2197175160, 2460548119, 2722870694, 2987750089, 3280807620, 3553878443, 3811616794, 4084100981].getD i 0 : Nat)) := by
    intro i hi
    have h1 := World.var?_cell hg0 hv0 i
    have h2 := hn i hi
    rw [← Array.getElem?_toList] at h1
    rw [h1, h2]
    congr 2
    clear h1 h2
    revert hi
    revert i
    decide
  exact hnib
/-- The door's own heap meets the condition. -/
theorem door_met (os : Os) (args : Array Value) : laidMetH Tryd.prog Rows.superApartRow.laid ((World.doorLaid Tryd.prog 400 os).forCall (fun _ _ => 0) ⟨#[], args, []⟩).memory :=
  laidMetH_of_parts3 (fuel := 8) (laidMet_of_run' 8 (by kernel_rfl) (by kernel_rfl)) (by kernel_rfl) (by kernel_rfl)
set_option maxRecDepth 100000 in
theorem lifted (os : Os) (started : os.Started) (H : Type) (enc : TypeId × Value → H) :
    ReturnsInHanded {} Tryd.checked os 3 .any (fun w args => (Rows.superApartSpec.pre enc Tryd.prog Tryd.f3 [] false w args ∧ laidMetH Tryd.prog Rows.superApartRow.laid w) ∧ sizedMet enc Tryd.prog Tryd.f3 (OpenSpec.ofChange Rows.superApartSpec) false w args)
      (Rows.superApartSpec.post enc Tryd.prog Tryd.f3 false true false false) := by
  refine returnsInHanded_of_change_and (C := Tryd.checked) (X := fun w _ => laidMetH Tryd.prog Rows.superApartRow.laid w) (fun _ _ _ hh h => h.of_heap hh) own started (by kernel_rfl) Tryd.func3
    (ChangeSpec.witness_shaped (enc := enc) (C := Tryd.checked) (os := os) (X := fun w _ => laidMetH Tryd.prog Rows.superApartRow.laid w) false (World.doorLaid Tryd.prog 400 os) #[.agg #[.int .i64 0, .int .i64 0], .agg #[.int .i64 0, .int .i64 0]] 8 rfl (World.shaped_of_RefB (by kernel_rfl) (by kernel_rfl)) (by kernel_rfl) (by kernel_rfl) (by kernel_rfl) (door_met os _)) ?_
  intro W base args ds gs before hval0 hW hcnd hsz0 hL _
  have hsz : (DataW.weightsEach Tryd.prog (Tryd.f3.params.toList ++ Rows.superApartSpec.plain.varTypes Tryd.prog) (ds ++ gs)).all (· ≤ reachBytes) = true := hsz0
  have hval : ∀ (j : Nat) t v, Tryd.f3.params[j]? = some t → args[j]? = some v → Value.okWide Tryd.prog W .any base t v := hval0
  have hW' := hW
  obtain ⟨p, q, hA0, hV, rfl, hfz, hnd⟩ := hW
  have hA : DataW.TrodAll enc Tryd.prog W 0 (fun _ => true) true Tryd.f3.params.toList args.toList ds p := hA0
  rw [Tryd.params3] at hA hval hsz
  obtain ⟨v0, vs0, d0, ds0, p0, q0, hargs, rfl, rfl, h0, r0⟩ := trodAll_cons hA
  obtain ⟨v1, vs1, d1, ds1, p1, q1, rfl, rfl, rfl, h1, r1⟩ := trodAll_cons r0
  obtain ⟨rfl, rfl, rfl⟩ := trodAll_nil r1
  obtain rfl : args = #[v0, v1] := by cases args; simp_all
  obtain ⟨vs0_, rfl, hvs0⟩ : ∃ cs, v0 = .agg cs ∧ cs.size = Tryd.prog.cellsOf 22 := by
    have z := (hval 0 22 v0 rfl rfl)
    simp only [Value.okWide, Tryd.underlying22] at z
    obtain ⟨cs, h1, h2, _⟩ := z
    exact ⟨cs, h1, h2⟩
  have k0 := h0
  have lt0 : ∀ x ∈ p0, x.block < W.heap.size := by obtain ⟨m, hm⟩ := k0; exact DataW.trod_lt m _ _ _ hm
  obtain ⟨x0, hx0, ok0⟩ := (let ⟨_, hf⟩ := h0; Came.read came22 hf (weights_arg hsz (j := 0) (t := 22) rfl rfl))
  have hy0 := k22_open hx0
  have hz0 : vs0_ = #[.int .i64 x0.f0, .int .i64 x0.f1] := by
    apply Array.toList_inj.1
    simpa [Value.cells] using hy0
  subst hz0
  obtain ⟨vs1_, rfl, hvs1⟩ : ∃ cs, v1 = .agg cs ∧ cs.size = Tryd.prog.cellsOf 22 := by
    have z := (hval 1 22 v1 rfl rfl)
    simp only [Value.okWide, Tryd.underlying22] at z
    obtain ⟨cs, h1, h2, _⟩ := z
    exact ⟨cs, h1, h2⟩
  have k1 := h1
  have lt1 : ∀ x ∈ p1, x.block < W.heap.size := by obtain ⟨m, hm⟩ := k1; exact DataW.trod_lt m _ _ _ hm
  obtain ⟨x1, hx1, ok1⟩ := (let ⟨_, hf⟩ := h1; Came.read came22 hf (weights_arg hsz (j := 1) (t := 22) rfl rfl))
  have hy1 := k22_open hx1
  have hz1 : vs1_ = #[.int .i64 x1.f0, .int .i64 x1.f1] := by
    apply Array.toList_inj.1
    simpa [Value.cells] using hy1
  subst hz1
  obtain ⟨rfl, rfl⟩ := trodVars_none hV
  clear hA0 hval0 hsz0
  obtain ⟨k, hk⟩ := Pure.SuperApart (x0.f0) (x0.f1) (x1.f0) (x1.f1) ok0.1 ok0.2 ok1.1 ok1.2
  have hcall := posthorselaw09_SuperApart.calls k (x0.f0) (x0.f1) (x1.f0) (x1.f1) true W (of_laid hL)  hk
  refine hcall.mono fun e W' ⟨he, bel0⟩ => ?_
  have bel : Below W.heap.size W W' := bel0
  subst he
  exact ⟨_, rfl, _, _, _, [], _, [], hW', trodAll_mk1 (shut_bool Tryd.underlying4 _), (trodAll_cons_mk (Below.trod laidOut (by kernel_rfl) (of_decide_eq_true (by kernel_rfl)) k0 bel lt0) (trodAll_cons_mk (Below.trod laidOut (by kernel_rfl) (of_decide_eq_true (by kernel_rfl)) k1 bel lt1) trodAll_mk0)), rfl, bel.frame _, fun h => by cases h⟩
theorem over : Rows.superApartRow.holds Tryd.pinned (OpenSpec.ofChange Rows.superApartSpec) :=
  OpenClaim.holds_of_wide 3 Tryd.f3 rfl rfl rfl rfl rfl rfl rfl ⟨rfl, rfl, rfl, rfl, rfl⟩ rfl rfl rfl rfl rfl (by kernel_rfl) Tryd.func3 (by kernel_rfl)
    (of_decide_eq_true (by kernel_rfl)) (by unfold Func.isWrapper; first | (rw [if_pos (by decide +kernel)]; kernel_rfl) | (rw [if_neg (by decide +kernel)]; exact ⟨rfl, rfl⟩))
    (fun os started H enc _ => lifted os started H enc)
theorem proved : Rows.SuperApartCardSaid :=
  Claim7.holds_tied_plain_at .later [] [.data] true (true, "09af00f8ac3a55a45627fe912e52743da1def320c14ecbaa6b671b1feae59b27") true
    over (fun _ h => by cases h) (by kernel_rfl) (fun _ h => by cases h) superApart_row_tie rfl ⟨rfl, rfl⟩ (by kernel_rfl) rfl
    (fun f fn hf hfn => by
      obtain rfl : f = 3 := Option.some.inj ((show Tryd.prog.funcNamed "posthorse/posthorselaw09.SuperApart" = some 3 by kernel_rfl).symm.trans hf) |>.symm
      obtain rfl : fn = Tryd.f3 := (Option.some.inj (Tryd.func3.symm.trans hfn)).symm
      exact ⟨by kernel_rfl, fun j t ht => by
        rw [Tryd.params3] at ht
        have hm : t ∈ ([22, 22] : List TypeId) := by
          simpa using Array.mem_of_getElem? ht
        have hall : (([22, 22] : List TypeId).all fun u => !Tryd.prog.wantsStandIn u) = true := by kernel_rfl
        exact (show Tryd.prog.wantsStandIn t = false by simpa using List.all_eq_true.1 hall t hm)⟩)
    (by kernel_rfl)
#print axioms proved
end Go.Proofs.YtekjkbocblonmaaDoor.superApart
namespace Go.Proofs.YtekjkbocblonmaaDoor
/-- The row, under a short name, for the claim. -/
theorem superApart_holds : Rows.SuperApartCardSaid := superApart.proved
end Go.Proofs.YtekjkbocblonmaaDoor
