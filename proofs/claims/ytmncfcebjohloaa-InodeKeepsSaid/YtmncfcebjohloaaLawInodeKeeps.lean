/- InodeKeeps: whatever the input, the law returns true and the input reads as it did; out of the pure law (YtmncfcebjohloaaPureInodeKeeps) and the walk of the function. -/
import Derived.Test.YtmncfcebjohloaaRows
import Derived.Test.YtmncfcebjohloaaPureInodeKeeps
import Derived.Test.YtmncfcebjohloaaVInodeKeepsx7
import Derived.Test.YtmncfcebjohloaaVInodeKeepsx8
import Derived.WalkKit
import Derived.ProofKit
import Derived.OpenShut
import Derived.ShutString
import Derived.ChangeOld
import Derived.Below
import Derived.SizedLaws
import Derived.Carry
namespace Go.Proofs.Ytmncfcebjohloaa.inodeKeeps
open Go.ChangeShapes Go.WideShapes Go.ChangeAt Go.RowKit Go.Proofs.Ytmncfcebjohloaa.VInodeKeeps Go.Proofs.YtmncfcebjohloaaW.PrintWords Go.Proofs.YtmncfcebjohloaaW.PrintLast
open Go.ChangeMaps (open_string shut_string)
set_option linter.unusedVariables false
set_option linter.unusedSimpArgs false
theorem own : ownKnob Try.prog.godebug = none := by kernel_rfl
theorem laidOut : laidOutB Try.prog = true := by kernel_rfl
instance : Inhabited S41 := ⟨z41⟩
theorem came41 : Came 41 k41 (fun x => ((Lit.int .i64 x.f0).wf = true ∧ (Lit.int .i64 x.f1).wf = true)) :=
  Came.iso _ (fun p => ⟨p.1, p.2⟩) (fun _ => rfl) (Came.struct Try.underlying41 rfl (by kernel_rfl) (CameFs.cons rfl (Came.int (t := 3) (k := .i64) Try.underlying3 (by kernel_rfl)) (CameFs.one rfl (Came.int (t := 3) (k := .i64) Try.underlying3 (by kernel_rfl)))))
set_option maxRecDepth 100000 in
theorem lifted (os : Os) (started : os.Started) (H : Type) (enc : TypeId × Value → H) :
    ReturnsInHanded {} Try.checked os 4 .any (Rows.inodeKeepsSpec.pre6 enc Try.prog Try.f4 Rows.inodeKeepsRow.domain false) (Rows.inodeKeepsSpec.post enc Try.prog Try.f4 false true false false) := by
  refine returnsInHanded_of_change_sized (C := Try.checked) own started (by kernel_rfl) Try.func4
    (ChangeSpec.witness6 (enc := enc) (C := Try.checked) false ⟨#[], #[.slice none 0 0, .agg #[.int .i64 0, .int .i64 0], .int .i64 0], []⟩ 8 (by kernel_rfl) (by kernel_rfl) (by kernel_rfl) (by kernel_rfl)) ?_
  intro W base args ds gs before hval0 hW hcnd hsz0 _
  have hsz : (DataW.weightsEach Try.prog (Try.f4.params.toList ++ Rows.inodeKeepsSpec.plain.varTypes Try.prog) (ds ++ gs)).all (· ≤ reachBytes) = true := hsz0
  have hval : ∀ (j : Nat) t v, Try.f4.params[j]? = some t → args[j]? = some v → Value.okWide Try.prog W .any base t v := hval0
  have hW' := hW
  obtain ⟨p, q, hA0, hV, rfl, hfz, hnd⟩ := hW
  have hA : DataW.TrodAll enc Try.prog W 0 (fun _ => true) true Try.f4.params.toList args.toList ds p := hA0
  rw [Try.params4] at hA hval hsz
  obtain ⟨v0, vs0, d0, ds0, p0, q0, hargs, rfl, rfl, h0, r0⟩ := trodAll_cons hA
  obtain ⟨v1, vs1, d1, ds1, p1, q1, rfl, rfl, rfl, h1, r1⟩ := trodAll_cons r0
  obtain ⟨v2, vs2, d2, ds2, p2, q2, rfl, rfl, rfl, h2, r2⟩ := trodAll_cons r1
  obtain ⟨rfl, rfl, rfl⟩ := trodAll_nil r2
  obtain rfl : args = #[v0, v1, v2] := by cases args; simp_all
  obtain ⟨A0, len0, cap0, rfl⟩ := okWide_slice Try.underlying22 (hval 0 22 v0 rfl rfl)
  have k0 := h0
  have lt0 : ∀ x ∈ p0, x.block < W.heap.size := by obtain ⟨m, hm⟩ := k0; exact DataW.trod_lt m _ _ _ hm
  obtain ⟨l0, rfl, hc0, hr0, ok0⟩ := Came.arg (Came.slice (t := 22) (e := 41) (B := 16) Try.underlying22 (by kernel_rfl) (by kernel_rfl) came41) h0 (weights_arg hsz (j := 0) (t := 22) rfl rfl)
  obtain ⟨vs1_, rfl, hvs1⟩ : ∃ cs, v1 = .agg cs ∧ cs.size = Try.prog.cellsOf 41 := by
    have z := (hval 1 41 v1 rfl rfl)
    simp only [Value.okWide, Try.underlying41] at z
    obtain ⟨cs, h1, h2, _⟩ := z
    exact ⟨cs, h1, h2⟩
  have k1 := h1
  have lt1 : ∀ x ∈ p1, x.block < W.heap.size := by obtain ⟨m, hm⟩ := k1; exact DataW.trod_lt m _ _ _ hm
  obtain ⟨x1, hx1, ok1⟩ := (let ⟨_, hf⟩ := h1; Came.read came41 hf (weights_arg hsz (j := 1) (t := 41) rfl rfl))
  have hy1 := k41_open hx1
  have hz1 : vs1_ = #[.int .i64 x1.f0, .int .i64 x1.f1] := by
    apply Array.toList_inj.1
    simpa [Value.cells] using hy1
  subst hz1
  obtain ⟨a2, rfl, rfl, rfl, w2⟩ := open_int Try.underlying3 (hval 2 3 v2 rfl rfl) h2
  obtain ⟨rfl, rfl⟩ := trodVars_none hV
  clear hA0 hval0 hsz0
  obtain ⟨k, hk⟩ := Pure.InodeKeeps l0 (x1.f0) (x1.f1) a2 ok0 ok1.1 ok1.2 w2
  have hcall := posthorselaw08_InodeKeeps.calls k A0 cap0 l0 (x1.f0) (x1.f1) a2 true W hr0 hc0 hk
  refine hcall.mono fun e W' ⟨he, bel0⟩ => ?_
  have bel : Below W.heap.size W W' := bel0
  subst he
  exact ⟨_, rfl, _, _, _, [], _, [], hW', trodAll_mk1 (shut_bool Try.underlying4 _), (trodAll_cons_mk (Below.trod laidOut (by kernel_rfl) (of_decide_eq_true (by kernel_rfl)) k0 bel lt0) (trodAll_cons_mk (Below.trod laidOut (by kernel_rfl) (of_decide_eq_true (by kernel_rfl)) k1 bel lt1) (trodAll_cons_mk (shut_int Try.underlying3 w2) trodAll_mk0))), rfl, bel.frame _, fun h => by cases h⟩
theorem over : Rows.inodeKeepsRow.holds Try.pinned (OpenSpec.ofChange Rows.inodeKeepsSpec) :=
  OpenClaim.holds_of_wide 4 Try.f4 rfl rfl rfl rfl rfl rfl rfl ⟨rfl, rfl, rfl, rfl, rfl⟩ rfl rfl rfl rfl rfl (by kernel_rfl) Try.func4 (by kernel_rfl)
    (of_decide_eq_true (by kernel_rfl)) (by unfold Func.isWrapper; first | (rw [if_pos (by decide +kernel)]; kernel_rfl) | (rw [if_neg (by decide +kernel)]; exact ⟨rfl, rfl⟩))
    (fun os started H enc _ => lifted os started H enc)
theorem proved : Rows.InodeKeepsSaid := over
#print axioms proved
end Go.Proofs.Ytmncfcebjohloaa.inodeKeeps
namespace Go.Proofs.Ytmncfcebjohloaa
/-- The row, under a short name, for the claim. -/
theorem inodeKeeps_holds : Rows.InodeKeepsSaid := inodeKeeps.proved
end Go.Proofs.Ytmncfcebjohloaa
