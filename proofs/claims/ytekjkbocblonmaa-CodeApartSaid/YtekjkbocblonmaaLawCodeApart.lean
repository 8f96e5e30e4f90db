/- CodeApart: whatever the input, the law returns true and the input reads as it did; out of the pure law (YtekjkbocblonmaaPureCodeApart) and the walk of the function. -/
import Derived.Test.YtekjkbocblonmaaRows
import Derived.Test.YtekjkbocblonmaaPureCodeApart
import Derived.Test.YtekjkbocblonmaaVCodeApartx9
import Derived.Test.YtekjkbocblonmaaVCodeApartx10
import Derived.WalkKit
import Derived.ProofKit
import Derived.OpenShut
import Derived.ShutString
import Derived.ChangeOld
import Derived.Below
import Derived.SizedLaws
import Derived.Carry
namespace Go.Proofs.Ytekjkbocblonmaa.codeApart
open Go.ChangeShapes Go.WideShapes Go.ChangeAt Go.RowKit Go.Proofs.Ytekjkbocblonmaa.VCodeApart Go.Proofs.YtekjkbocblonmaaW.PrintWords Go.Proofs.YtekjkbocblonmaaW.PrintLast
open Go.ChangeMaps (open_string shut_string)
set_option linter.unusedVariables false
set_option linter.unusedSimpArgs false
theorem own : ownKnob Try.prog.godebug = none := by kernel_rfl
theorem laidOut : laidOutB Try.prog = true := by kernel_rfl
instance : Inhabited S41 := ⟨z41⟩
theorem came41 : Came 41 k41 (fun x => ((Lit.int .i64 x.f0).wf = true ∧ (Lit.int .i64 x.f1).wf = true ∧ (Lit.int .i64 x.f2).wf = true ∧ (Lit.int .i64 x.f3).wf = true)) :=
  Came.iso _ (fun p => ⟨p.1, p.2.1, p.2.2.1, p.2.2.2⟩) (fun _ => rfl) (Came.struct Try.underlying41 rfl (by kernel_rfl) (CameFs.cons rfl (Came.int (t := 3) (k := .i64) Try.underlying3 (by kernel_rfl)) (CameFs.cons rfl (Came.int (t := 3) (k := .i64) Try.underlying3 (by kernel_rfl)) (CameFs.cons rfl (Came.int (t := 3) (k := .i64) Try.underlying3 (by kernel_rfl)) (CameFs.one rfl (Came.int (t := 3) (k := .i64) Try.underlying3 (by kernel_rfl)))))))
set_option maxRecDepth 100000 in
theorem lifted (os : Os) (started : os.Started) (H : Type) (enc : TypeId × Value → H) :
    ReturnsInHanded {} Try.checked os 5 .any (Rows.codeApartSpec.pre6 enc Try.prog Try.f5 Rows.codeApartRow.domain false) (Rows.codeApartSpec.post enc Try.prog Try.f5 false true false false) := by
  refine returnsInHanded_of_change_sized (C := Try.checked) own started (by kernel_rfl) Try.func5
    (ChangeSpec.witness6 (enc := enc) (C := Try.checked) false ⟨#[], #[.slice none 0 0, .slice none 0 0], []⟩ 8 (by kernel_rfl) (by kernel_rfl) (by kernel_rfl) (by kernel_rfl)) ?_
  intro W base args ds gs before hval0 hW hcnd hsz0 _
  have hsz : (DataW.weightsEach Try.prog (Try.f5.params.toList ++ Rows.codeApartSpec.plain.varTypes Try.prog) (ds ++ gs)).all (· ≤ reachBytes) = true := hsz0
  have hval : ∀ (j : Nat) t v, Try.f5.params[j]? = some t → args[j]? = some v → Value.okWide Try.prog W .any base t v := hval0
  have hW' := hW
  obtain ⟨p, q, hA0, hV, rfl, hfz, hnd⟩ := hW
  have hA : DataW.TrodAll enc Try.prog W 0 (fun _ => true) true Try.f5.params.toList args.toList ds p := hA0
  rw [Try.params5] at hA hval hsz
  obtain ⟨v0, vs0, d0, ds0, p0, q0, hargs, rfl, rfl, h0, r0⟩ := trodAll_cons hA
  obtain ⟨v1, vs1, d1, ds1, p1, q1, rfl, rfl, rfl, h1, r1⟩ := trodAll_cons r0
  obtain ⟨rfl, rfl, rfl⟩ := trodAll_nil r1
  obtain rfl : args = #[v0, v1] := by cases args; simp_all
  obtain ⟨A0, len0, cap0, rfl⟩ := okWide_slice Try.underlying37 (hval 0 37 v0 rfl rfl)
  have k0 := h0
  have lt0 : ∀ x ∈ p0, x.block < W.heap.size := by obtain ⟨m, hm⟩ := k0; exact DataW.trod_lt m _ _ _ hm
  obtain ⟨l0, rfl, hc0, hr0, ok0⟩ := Came.arg (Came.slice (t := 37) (e := 41) (B := 32) Try.underlying37 (by kernel_rfl) (by kernel_rfl) came41) h0 (weights_arg hsz (j := 0) (t := 37) rfl rfl)
  obtain ⟨A1, len1, cap1, rfl⟩ := okWide_slice Try.underlying37 (hval 1 37 v1 rfl rfl)
  have k1 := h1
  have lt1 : ∀ x ∈ p1, x.block < W.heap.size := by obtain ⟨m, hm⟩ := k1; exact DataW.trod_lt m _ _ _ hm
  obtain ⟨l1, rfl, hc1, hr1, ok1⟩ := Came.arg (Came.slice (t := 37) (e := 41) (B := 32) Try.underlying37 (by kernel_rfl) (by kernel_rfl) came41) h1 (weights_arg hsz (j := 1) (t := 37) rfl rfl)
  obtain ⟨rfl, rfl⟩ := trodVars_none hV
  clear hA0 hval0 hsz0
  obtain ⟨k, hk⟩ := Pure.CodeApart l0 l1 ok0 ok1
  have hcall := posthorselaw17_CodeApart.calls k A0 cap0 l0 A1 cap1 l1 true W hr0 hc0 hr1 hc1 hk
  refine hcall.mono fun e W' ⟨he, bel0⟩ => ?_
  have bel : Below W.heap.size W W' := bel0
  subst he
  exact ⟨_, rfl, _, _, _, [], _, [], hW', trodAll_mk1 (shut_bool Try.underlying4 _), (trodAll_cons_mk (Below.trod laidOut (by kernel_rfl) (of_decide_eq_true (by kernel_rfl)) k0 bel lt0) (trodAll_cons_mk (Below.trod laidOut (by kernel_rfl) (of_decide_eq_true (by kernel_rfl)) k1 bel lt1) trodAll_mk0)), rfl, bel.frame _, fun h => by cases h⟩
theorem over : Rows.codeApartRow.holds Try.pinned (OpenSpec.ofChange Rows.codeApartSpec) :=
  OpenClaim.holds_of_wide 5 Try.f5 rfl rfl rfl rfl rfl rfl rfl ⟨rfl, rfl, rfl, rfl, rfl⟩ rfl rfl rfl rfl rfl (by kernel_rfl) Try.func5 (by kernel_rfl)
    (of_decide_eq_true (by kernel_rfl)) (by unfold Func.isWrapper; first | (rw [if_pos (by decide +kernel)]; kernel_rfl) | (rw [if_neg (by decide +kernel)]; exact ⟨rfl, rfl⟩))
    (fun os started H enc _ => lifted os started H enc)
theorem proved : Rows.CodeApartSaid := over
#print axioms proved
end Go.Proofs.Ytekjkbocblonmaa.codeApart
namespace Go.Proofs.Ytekjkbocblonmaa
/-- The row, under a short name, for the claim. -/
theorem codeApart_holds : Rows.CodeApartSaid := codeApart.proved
end Go.Proofs.Ytekjkbocblonmaa
