/- NvmeRefuses: whatever the input, the law returns true and the input reads as it did; out of the pure law (YtofiedgnnpednaaDoorPureNvmeRefuses) and the walk of the function. -/
import Derived.Test.YtofiedgnnpednaaDoorRows
import Derived.Test.YtofiedgnnpednaaDoorPureNvmeRefuses
import Derived.Test.YtofiedgnnpednaaDoorTie
import Derived.Test.YtofiedgnnpednaaDoorCards
import Derived.Test.YtofiedgnnpednaaDoorVNvmeRefusesx34
import Derived.Test.YtofiedgnnpednaaDoorVNvmeRefusesx35
import Derived.WalkKit
import Derived.ProofKit
import Derived.OpenShut
import Derived.ShutString
import Derived.ChangeOld
import Derived.Below
import Derived.SizedLaws
import Derived.Carry
import Derived.LaidMore
import Derived.Lay
import Derived.LaidHandle
import Derived.LaidLaws
import Derived.MakeChecks
import Derived.Stop.Joined
import Derived.JoinedOf
import Derived.SevenTiedAt
import Derived.FnData
namespace Go.Proofs.YtofiedgnnpednaaDoor.nvmeRefuses
open Go.ChangeShapes Go.WideShapes Go.ChangeAt Go.RowKit Go.Proofs.YtofiedgnnpednaaDoor.VNvmeRefuses Go.Proofs.YtofiedgnnpednaaDoorW.PrintWords Go.Proofs.YtofiedgnnpednaaDoorW.PrintLast
open Go.ChangeMaps (open_string shut_string)
set_option linter.unusedVariables false
set_option linter.unusedSimpArgs false
theorem own : ownKnob Tryd.prog.godebug = none := by kernel_rfl
theorem laidOut : laidOutB Tryd.prog = true := by kernel_rfl
/-- An array of whole numbers that is laid: its cells. -/
theorem laid_ints {t e : TypeId} {k : IntKind} {m : Nat} {l : List Int} {base fuel : Nat} {spare : Nat → Bool} {held : Bool} {w : World} {cs : List Value} {p : List MemPlace} (ht : Tryd.prog.underlying t = some (.array m e)) (he : Tryd.prog.underlying e = some (.int k)) (hce : Tryd.prog.cellsOf e = 1)
    (h : DataW.trod (fun _ => ()) Tryd.prog w base spare held fuel t cs = some (.agg (l.map fun x => .lit (.int k x)), p)) : ∀ (i : Nat) (hi : i < l.length), cs[i]? = some (.int k l[i]) := by
  obtain ⟨xs, m1, rfl, hx1, hlen, hn, hel⟩ := DataW.trod_array ht h
  simp only [Prod.mk.injEq, DataW.agg.injEq] at hx1
  have hl : xs.length = l.length := by have := congrArg List.length hx1.1; simpa using this.symm
  intro i hi
  have h0 := hel i (by omega)
  rw [hce, Nat.mul_one, List.getElem?_eq_getElem (by omega)] at h0
  obtain ⟨y, e1, e2, _⟩ := DataW.trod_int he h0
  have e3 : (xs.map (·.1))[i]? = (l.map fun x => (.lit (.int k x) : DataW Unit))[i]? := by rw [← hx1.1]
  rw [List.getElem?_map, List.getElem?_map, List.getElem?_eq_getElem (by omega), List.getElem?_eq_getElem hi, Option.map_some, Option.map_some, e2] at e3
  have hy : y = l[i] := by simpa using e3
  have e4 : ((cs.drop i).take 1)[0]? = some (.int k y) := by rw [e1]; rfl
  rw [List.getElem?_take_of_lt (by decide), List.getElem?_drop, Nat.add_zero] at e4
  rw [e4, hy]
theorem of_laid {W : World} (h : laidMetH Tryd.prog Rows.nvmeRefusesRow.laid W) : Laid W := by
  have h' : laidMet Tryd.prog [] W ∧ handlesMet Tryd.prog [("errors.errorType", Rows.laid_errors_errorType)] W := h
  obtain ⟨_, hh⟩ := h'
  have hE : W.cell? ⟨0, 0, none⟩ = some (.iface 147 (.agg #[.pointer (some ⟨2, 27, none⟩)])) := by
    obtain ⟨name, u, ty, e1, e2, e3, e4, e5⟩ := hh _ (List.mem_singleton.2 rfl)
    have en : name = [101, 114, 114, 111, 114] := (Option.some.inj e1).symm
    subst en
    obtain rfl := Option.some.inj ((show (Tryd.prog.cutTypes.find? (·.1 == "internal/reflectlite.rtype")).map (·.2) = some 147 by kernel_rfl).symm.trans e2)
    have hm : ty ∈ (List.range 198).filter fun t => Tryd.prog.rowNamed t [101, 114, 114, 111, 114] := List.mem_filter.2 ⟨List.mem_range.2 (by rw [← show Tryd.prog.types.size = 198 by kernel_rfl]; exact e3), e4⟩
    rw [show ((List.range 198).filter fun t => Tryd.prog.rowNamed t [101, 114, 114, 111, 114]) = [27] by kernel_rfl] at hm
    obtain rfl := List.mem_singleton.1 hm
    rw [show typeHandle Tryd.prog 27 = .pointer (some ⟨2, 27, none⟩) by kernel_rfl] at e5
    simpa using World.var?_cell (show Tryd.prog.globalNamed "errors.errorType" = some 0 by kernel_rfl) e5 0
  exact hE
/-- The door's own heap meets the condition. -/
theorem door_met (os : Os) (args : Array Value) : laidMetH Tryd.prog Rows.nvmeRefusesRow.laid ((World.doorLaid Tryd.prog 400 os).forCall (fun _ _ => 0) ⟨#[], args, []⟩).memory :=
  laidMetH_of_parts3 (fuel := 8) (laidMet_of_run' 8 (by kernel_rfl) (by kernel_rfl)) (by kernel_rfl) (by kernel_rfl)
set_option maxRecDepth 100000 in
theorem lifted (os : Os) (started : os.Started) (H : Type) (enc : TypeId × Value → H) :
    ReturnsInHanded {} Tryd.checked os 4 .any (fun w args => (Rows.nvmeRefusesSpec.pre enc Tryd.prog Tryd.f4 [] false w args ∧ laidMetH Tryd.prog Rows.nvmeRefusesRow.laid w) ∧ sizedMet enc Tryd.prog Tryd.f4 (OpenSpec.ofChange Rows.nvmeRefusesSpec) false w args)
      (Rows.nvmeRefusesSpec.post enc Tryd.prog Tryd.f4 false true false false) := by
  refine returnsInHanded_of_change_and (C := Tryd.checked) (X := fun w _ => laidMetH Tryd.prog Rows.nvmeRefusesRow.laid w) (fun _ _ _ hh h => h.of_heap hh) own started (by kernel_rfl) Tryd.func4
    (ChangeSpec.witness_shaped (enc := enc) (C := Tryd.checked) (os := os) (X := fun w _ => laidMetH Tryd.prog Rows.nvmeRefusesRow.laid w) false (World.doorLaid Tryd.prog 400 os) #[.int .i64 0, .int .i64 0] 8 rfl (World.shaped_of_RefB (by kernel_rfl) (by kernel_rfl)) (by kernel_rfl) (by kernel_rfl) (by kernel_rfl) (door_met os _)) ?_
  intro W base args ds gs before hval0 hW hcnd hsz0 hL _
  have hsz : (DataW.weightsEach Tryd.prog (Tryd.f4.params.toList ++ Rows.nvmeRefusesSpec.plain.varTypes Tryd.prog) (ds ++ gs)).all (· ≤ reachBytes) = true := hsz0
  have hval : ∀ (j : Nat) t v, Tryd.f4.params[j]? = some t → args[j]? = some v → Value.okWide Tryd.prog W .any base t v := hval0
  have hW' := hW
  obtain ⟨p, q, hA0, hV, rfl, hfz, hnd⟩ := hW
  have hA : DataW.TrodAll enc Tryd.prog W 0 (fun _ => true) true Tryd.f4.params.toList args.toList ds p := hA0
  rw [Tryd.params4] at hA hval hsz
  obtain ⟨v0, vs0, d0, ds0, p0, q0, hargs, rfl, rfl, h0, r0⟩ := trodAll_cons hA
  obtain ⟨v1, vs1, d1, ds1, p1, q1, rfl, rfl, rfl, h1, r1⟩ := trodAll_cons r0
  obtain ⟨rfl, rfl, rfl⟩ := trodAll_nil r1
  obtain rfl : args = #[v0, v1] := by cases args; simp_all
  obtain ⟨a0, rfl, rfl, rfl, w0⟩ := open_int Tryd.underlying3 (hval 0 3 v0 rfl rfl) h0
  obtain ⟨a1, rfl, rfl, rfl, w1⟩ := open_int Tryd.underlying3 (hval 1 3 v1 rfl rfl) h1
  obtain ⟨rfl, rfl⟩ := trodVars_none hV
  clear hA0 hval0 hsz0
  have hk := Pure.NvmeRefuses a0 a1 w0 w1
  have hcall := posthorselaw04_NvmeRefuses.calls a0 a1 true W (of_laid hL)  hk
  refine hcall.mono fun e W' ⟨he, bel0⟩ => ?_
  have bel : Below W.heap.size W W' := bel0
  subst he
  exact ⟨_, rfl, _, _, _, [], _, [], hW', trodAll_mk1 (shut_bool Tryd.underlying4 _), (trodAll_cons_mk (shut_int Tryd.underlying3 w0) (trodAll_cons_mk (shut_int Tryd.underlying3 w1) trodAll_mk0)), rfl, bel.frame _, fun h => by cases h⟩
theorem over : Rows.nvmeRefusesRow.holds Tryd.pinned (OpenSpec.ofChange Rows.nvmeRefusesSpec) :=
  OpenClaim.holds_of_wide 4 Tryd.f4 rfl rfl rfl rfl rfl rfl rfl ⟨rfl, rfl, rfl, rfl, rfl⟩ rfl rfl rfl rfl rfl (by kernel_rfl) Tryd.func4 (by kernel_rfl)
    (of_decide_eq_true (by kernel_rfl)) (by unfold Func.isWrapper; first | (rw [if_pos (by decide +kernel)]; kernel_rfl) | (rw [if_neg (by decide +kernel)]; exact ⟨rfl, rfl⟩))
    (fun os started H enc _ => lifted os started H enc)
theorem proved : Rows.NvmeRefusesCardSaid :=
  Claim7.holds_tied_plain_at .later [] [.handle] true (true, "d300a46d850c5e6e3abf8638b47a30bf1a23e9f6a11fa499991c9566fb0545d4") true
    over (fun _ h => by cases h) (by kernel_rfl) (fun _ h => by cases h) nvmeRefuses_row_tie rfl ⟨rfl, rfl⟩ (by kernel_rfl) rfl
    (fun f fn hf hfn => by
      obtain rfl : f = 4 := Option.some.inj ((show Tryd.prog.funcNamed "posthorse/posthorselaw04.NvmeRefuses" = some 4 by kernel_rfl).symm.trans hf) |>.symm
      obtain rfl : fn = Tryd.f4 := (Option.some.inj (Tryd.func4.symm.trans hfn)).symm
      exact ⟨by kernel_rfl, fun j t ht => by
        rw [Tryd.params4] at ht
        have hm : t ∈ ([3, 3] : List TypeId) := by
          simpa using Array.mem_of_getElem? ht
        have hall : (([3, 3] : List TypeId).all fun u => !Tryd.prog.wantsStandIn u) = true := by kernel_rfl
        exact (show Tryd.prog.wantsStandIn t = false by simpa using List.all_eq_true.1 hall t hm)⟩)
    (by kernel_rfl)
#print axioms proved
end Go.Proofs.YtofiedgnnpednaaDoor.nvmeRefuses
namespace Go.Proofs.YtofiedgnnpednaaDoor
/-- The row, under a short name, for the claim. -/
theorem nvmeRefuses_holds : Rows.NvmeRefusesCardSaid := nvmeRefuses.proved
end Go.Proofs.YtofiedgnnpednaaDoor
