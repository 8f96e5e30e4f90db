/- Contracts of functions of this seat: each call comes to what its Lean function computes; no condition beyond what each theorem states. Printed by a program of this session's own laid over the kit's printer. -/
import Derived.Test.YtofiedgnnpednaaDoorVNvmeRefusesx0
import Derived.Test.YtofiedgnnpednaaDoorVNvmeRefusesx1
import Derived.Test.YtofiedgnnpednaaDoorVNvmeRefusesx3
namespace Go.Proofs.YtofiedgnnpednaaDoor.VNvmeRefuses
open Go.RowKit Go.Proofs.YtofiedgnnpednaaDoorW.PrintWords Go.Proofs.YtofiedgnnpednaaDoorW.PrintLast Go.Proofs.YtofiedgnnpednaaDoorW.PrintMore
attribute [local go_sem] max2_int min2_int max_two min_two max_three min_three max_four min_four   -- for this text's walks alone
set_option linter.unusedVariables false
set_option linter.unusedSimpArgs false

-- @GIVEN lib_nvmap
theorem gr_drewc {w W : World} {r : Option Nat} (h : w.grownBy W r) : w.grownBy W.drew r := ⟨h.os, h.tape, h.output, h.size, h.block⟩
theorem gr_transc {w W V : World} {r : Option Nat} (h : w.grownBy W r) (k : W.grownBy V r) : w.grownBy V r :=
  ⟨k.os.trans h.os, k.tape.trans h.tape, k.output.trans h.output, Nat.le_trans h.size k.size, fun i hi hn => (k.block i (Nat.lt_of_lt_of_le hi h.size) hn).trans (h.block i hi hn)⟩
theorem gr_belowc {w W : World} {r : Option Nat} (h : Below w.heap.size w W) : w.grownBy W r := ⟨h.os, h.tape, h.output, h.size, fun k hk _ => h.block k hk⟩
/-- One entry of a map put in. -/
theorem map_put {w : World} {mb cl : Nat} {es : Array MapEntry} {m : List (Int × NC)} (hb : w.heap[mb]? = some (.map es cl)) (hm : MEnts es.toList m) (f : Int) (c : NC) :
    ∃ w', (Instr.mapUpdate 76 (.map (some mb)) (.int .i64 f) c.v).run Tryd.prog w = .ok () w' ∧ (∃ es' cl', w'.heap[mb]? = some (.map es' cl') ∧ MEnts es'.toList (putM f c m)) ∧ w.grownBy w' (some mb) := by
  have hg : ∀ o, w.grownBy (ChangeMaps.setBlock w mb o) (some mb) := fun o => ⟨rfl, rfl, rfl, by simp [ChangeMaps.setBlock], fun k _ hn => ChangeMaps.heap_setBlock_other hb o (fun e => hn (by rw [e]))⟩
  rcases hl : lookM f m with _ | c0
  · refine ⟨_, n_put_none hb f c.v (findN_none 0 hm hl), ⟨_, _, ChangeMaps.heap_setBlock_same hb _, ?_⟩, hg _⟩
    rw [Array.toList_push]
    exact MEnts.snoc hm hl
  · obtain ⟨j, h1, ⟨a, h2, h3⟩, h4⟩ := findN_some (c := c0) 0 hm hl
    rw [Nat.zero_add] at h1
    refine ⟨_, n_put_some hb f c.v h1 (a := a) (by simpa using h2) h3, ⟨_, _, ChangeMaps.heap_setBlock_same hb _, ?_⟩, hg _⟩
    rw [Array.toList_modify]
    exact h4 c
theorem DevAt.mapped {B : Nat} {w w' : World} {P : DevP} {D : Dev} (h : DevAt B w P D) {m : List (Int × NC)} (hm : ∃ es cl, w'.heap[P.mb]? = some (.map es cl) ∧ MEnts es.toList m) (hg : w.grownBy w' (some P.mb)) : DevAt B w' P { D with last := m } := by
  have hap := fun g hg => h.apart (g := g) hg
  have hkv : ∀ g, P.kv.ownBlock = some g → g ≠ P.mb := fun g hk e => by
    obtain ⟨_, _, _, _, ⟨es, cl, h5, _⟩, _, _, h9, _⟩ := h
    obtain ⟨cur, hcur⟩ := own_kind h9 hk
    rw [e, h5] at hcur
    cases hcur
  obtain ⟨h1, h2, h3, h4, ⟨es, cl, h5, h6⟩, h7, h8, h9, h10⟩ := h
  refine ⟨h1, h2, h3, (hg.block _ (Array.getElem?_eq_some_iff.1 h4).1 (fun e => h3 (Option.some.inj e))).trans h4, hm, ?_, ?_, ?_, h10⟩
  · exact own_same h7 fun g hk => hg.block g (h7.lt g hk).2 (fun e => (hap g (.inl hk)).2.1 (Option.some.inj e))
  · exact own_same h8 fun g hk => hg.block g (h8.lt g hk).2 (fun e => (hap g (.inr hk)).2.1 (Option.some.inj e))
  · exact own_same h9 fun g hk => hg.block g (h9.lt g hk).2 (fun e => hkv g hk (Option.some.inj e))
theorem grown_dkeep {w w' : World} {P : DevP} (hg : w.grownBy w' (some P.mb)) : DKeep P P w w' :=
  ⟨hg.os, hg.tape, hg.output, hg.size, rfl, fun k hk hn => hg.block k hk (fun e => hn (.inr (.inl (Option.some.inj e)))), fun _ h => .inl h⟩
theorem dev_map {B : Nat} {w : World} {P : DevP} {D : Dev} (h : DevAt B w P D) (c : NC) :
    ∃ w', (Instr.mapUpdate 76 (.map (some P.mb)) (.int .i64 c.sector) (.agg #[.int .i64 c.kind, .int .i64 c.sector, .string c.data, .int .i64 c.tag])).run Tryd.prog w = .ok () w' ∧ DevAt B w' P { D with last := putM c.sector c D.last } ∧ w.grownBy w' (some P.mb) := by
  obtain ⟨es, cl, h5, h6⟩ := h.2.2.2.2.1
  obtain ⟨w', hr, hm, hg⟩ := map_put h5 h6 c.sector c
  exact ⟨w', hr, h.mapped hm hg, hg⟩


end Go.Proofs.YtofiedgnnpednaaDoor.VNvmeRefuses
