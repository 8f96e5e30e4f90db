/- CodeJoins: whatever the input, the law returns true and the input reads as it did; out of the pure law (YtekjkbocblonmaaPureCodeJoins) and the walk of the function. -/
import Derived.Test.YtekjkbocblonmaaRows
import Derived.Test.YtekjkbocblonmaaPureCodeJoins
import Derived.Test.YtekjkbocblonmaaVCodeJoinsx9
import Derived.Test.YtekjkbocblonmaaVCodeJoinsx10
import Derived.WalkKit
import Derived.ProofKit
import Derived.OpenShut
import Derived.ShutString
import Derived.ChangeOld
import Derived.Below
import Derived.SizedLaws
import Derived.Carry
namespace Go.Proofs.Ytekjkbocblonmaa.codeJoins
open Go.ChangeShapes Go.WideShapes Go.ChangeAt Go.RowKit Go.Proofs.Ytekjkbocblonmaa.VCodeJoins Go.Proofs.YtekjkbocblonmaaW.PrintWords Go.Proofs.YtekjkbocblonmaaW.PrintLast
open Go.ChangeMaps (open_string shut_string)
set_option linter.unusedVariables false
set_option linter.unusedSimpArgs false
theorem own : ownKnob Try.prog.godebug = none := by kernel_rfl
theorem laidOut : laidOutB Try.prog = true := by kernel_rfl
instance : Inhabited S41 := ⟨z41⟩
theorem came41 : Came 41 k41 (fun x => ((Lit.int .i64 x.f0).wf = true ∧ (Lit.int .i64 x.f1).wf = true ∧ (Lit.int .i64 x.f2).wf = true ∧ (Lit.int .i64 x.f3).wf = true)) :=
  Came.iso _ (fun p => ⟨p.1, p.2.1, p.2.2.1, p.2.2.2⟩) (fun _ => rfl) (Came.struct Try.underlying41 rfl (by kernel_rfl) (CameFs.cons rfl (Came.int (t := 3) (k := .i64) Try.underlying3 (by kernel_rfl)) (CameFs.cons rfl (Came.int (t := 3) (k := .i64) Try.underlying3 (by kernel_rfl)) (CameFs.cons rfl (Came.int (t := 3) (k := .i64) Try.underlying3 (by kernel_rfl)) (CameFs.one rfl (Came.int (t := 3) (k := .i64) Try.underlying3 (by kernel_rfl)))))))
set_option maxRecDepth 100000 in
theorem lifted (os : Os) (started : os.Started) (H : Type) (enc : TypeId × Value → H) :
    ReturnsInHanded {} Try.checked os 6 .any (Rows.codeJoinsSpec.pre6 enc Try.prog Try.f6 Rows.codeJoinsRow.domain false) (Rows.codeJoinsSpec.post enc Try.prog Try.f6 false true false false) := by
  refine returnsInHanded_of_change_sized (C := Try.checked) own started (by kernel_rfl) Try.func6
    (ChangeSpec.witness6 (enc := enc) (C := Try.checked) false ⟨#[], #[.slice none 0 0, .slice none 0 0, .int .i64 0], []⟩ 8 (by kernel_rfl) (by kernel_rfl) (by kernel_rfl) (by kernel_rfl)) ?_
  intro W base args ds gs before hval0 hW hcnd hsz0 _
  have hsz : (DataW.weightsEach Try.prog (Try.f6.params.toList ++ Rows.codeJoinsSpec.plain.varTypes Try.prog) (ds ++ gs)).all (· ≤ reachBytes) = true := hsz0
  have hval : ∀ (j : Nat) t v, Try.f6.params[j]? = some t → args[j]? = some v → Value.okWide Try.prog W .any base t v := hval0
  have hW' := hW
  obtain ⟨p, q, hA0, hV, rfl, hfz, hnd⟩ := hW
  have hA : DataW.TrodAll enc Try.prog W 0 (fun _ => true) true Try.f6.params.toList args.toList ds p := hA0
  rw [Try.params6] at hA hval hsz
  obtain ⟨v0, vs0, d0, ds0, p0, q0, hargs, rfl, rfl, h0, r0⟩ := trodAll_cons hA
  obtain ⟨v1, vs1, d1, ds1, p1, q1, rfl, rfl, rfl, h1, r1⟩ := trodAll_cons r0
  obtain ⟨v2, vs2, d2, ds2, p2, q2, rfl, rfl, rfl, h2, r2⟩ := trodAll_cons r1
  obtain ⟨rfl, rfl, rfl⟩ := trodAll_nil r2
  obtain rfl : args = #[v0, v1, v2] := by cases args; simp_all
  obtain ⟨A0, len0, cap0, rfl⟩ := okWide_slice Try.underlying37 (hval 0 37 v0 rfl rfl)
  have k0 := h0
  have lt0 : ∀ x ∈ p0, x.block < W.heap.size := by obtain ⟨m, hm⟩ := k0; exact DataW.trod_lt m _ _ _ hm
  obtain ⟨l0, rfl, hc0, hr0, ok0⟩ := Came.arg (Came.slice (t := 37) (e := 41) (B := 32) Try.underlying37 (by kernel_rfl) (by kernel_rfl) came41) h0 (weights_arg hsz (j := 0) (t := 37) rfl rfl)
  obtain ⟨A1, len1, cap1, rfl⟩ := okWide_slice Try.underlying37 (hval 1 37 v1 rfl rfl)
  have k1 := h1
  have lt1 : ∀ x ∈ p1, x.block < W.heap.size := by obtain ⟨m, hm⟩ := k1; exact DataW.trod_lt m _ _ _ hm
  obtain ⟨l1, rfl, hc1, hr1, ok1⟩ := Came.arg (Came.slice (t := 37) (e := 41) (B := 32) Try.underlying37 (by kernel_rfl) (by kernel_rfl) came41) h1 (weights_arg hsz (j := 1) (t := 37) rfl rfl)
  obtain ⟨a2, rfl, rfl, rfl, w2⟩ := open_int Try.underlying3 (hval 2 3 v2 rfl rfl) h2
  obtain ⟨rfl, rfl⟩ := trodVars_none hV
  clear hA0 hval0 hsz0
  obtain ⟨k, hk⟩ := Pure.CodeJoins l0 l1 a2 ok0 ok1 w2
  have hcall := posthorselaw17_CodeJoins.calls k A0 cap0 l0 A1 cap1 l1 a2 true W hr0 hc0 hr1 hc1 hk
  refine hcall.mono fun e W' ⟨he, bel0⟩ => ?_
  have bel : Below W.heap.size W W' := bel0
  subst he
  exact ⟨_, rfl, _, _, _, [], _, [], hW', trodAll_mk1 (shut_bool Try.underlying4 _), (trodAll_cons_mk (Below.trod laidOut (by kernel_rfl) (of_decide_eq_true (by kernel_rfl)) k0 bel lt0) (trodAll_cons_mk (Below.trod laidOut (by kernel_rfl) (of_decide_eq_true (by kernel_rfl)) k1 bel lt1) (trodAll_cons_mk (shut_int Try.underlying3 w2) trodAll_mk0))), rfl, bel.frame _, fun h => by cases h⟩
theorem over : Rows.codeJoinsRow.holds Try.pinned (OpenSpec.ofChange Rows.codeJoinsSpec) :=
  OpenClaim.holds_of_wide 6 Try.f6 rfl rfl rfl rfl rfl rfl rfl ⟨rfl, rfl, rfl, rfl, rfl⟩ rfl rfl rfl rfl rfl (by kernel_rfl) Try.func6 (by kernel_rfl)
    (of_decide_eq_true (by kernel_rfl)) (by unfold Func.isWrapper; first | (rw [if_pos (by decide +kernel)]; kernel_rfl) | (rw [if_neg (by decide +kernel)]; exact ⟨rfl, rfl⟩))
    (fun os started H enc _ => lifted os started H enc)
theorem proved : Rows.CodeJoinsSaid := over
#print axioms proved
end Go.Proofs.Ytekjkbocblonmaa.codeJoins
namespace Go.Proofs.Ytekjkbocblonmaa
/-- The row, under a short name, for the claim. -/
theorem codeJoins_holds : Rows.CodeJoinsSaid := codeJoins.proved
end Go.Proofs.Ytekjkbocblonmaa
