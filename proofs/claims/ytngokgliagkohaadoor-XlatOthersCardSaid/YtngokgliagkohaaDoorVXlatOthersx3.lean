/- Contracts of functions of this seat: each call comes to what its Lean function computes; no condition beyond what each theorem states. Printed by a program of this session's own laid over the kit's printer. -/
import Derived.Lib.Hide
import Derived.Maps.OwnSet
import Derived.Maps.OwnOps
import Derived.Test.YtngokgliagkohaaDoorVXlatOthersx0
namespace Go.Proofs.YtngokgliagkohaaDoor.VXlatOthers
open Go.RowKit Go.Proofs.YtngokgliagkohaaDoorW.PrintWords Go.Proofs.YtngokgliagkohaaDoorW.PrintLast Go.Proofs.YtngokgliagkohaaDoorW.PrintMore
attribute [local go_sem] max2_int min2_int max_two min_two max_three min_three max_four min_four   -- for this text's walks alone
set_option linter.unusedVariables false
set_option linter.unusedSimpArgs false

-- @GIVEN lib_xlat
abbrev XExt := S63
/-- A file's entry: a version, extents. -/
abbrev XEnt := Int × List XExt
/-- All cells but those of a Cache's own block stay. -/
def CKeep (w w' : World) : Prop := ∀ (k : Nat) (cs : Array Value) (t : TypeId), t ≠ 43 → w.heap[k]? = some (.cells cs t (0, 0)) → w'.heap[k]? = some (.cells cs t (0, 0))
theorem CKeep.refl (w : World) : CKeep w w := fun _ _ _ _ h => h
theorem CKeep.trans {w w1 w2 : World} (h : CKeep w w1) (k : CKeep w1 w2) : CKeep w w2 := fun b cs t ht hb => k b cs t ht (h b cs t ht hb)
theorem CKeep.of_below {w w1 : World} (h : Below w.heap.size w w1) : CKeep w w1 := fun _ _ _ _ hb => blk_below hb h
theorem CKeep.below {w w1 w2 : World} (h : CKeep w w1) (hb : Below w1.heap.size w1 w2) : CKeep w w2 := h.trans (CKeep.of_below hb)
theorem CKeep.drew {w w1 : World} (h : CKeep w w1) : CKeep w w1.drew := h
theorem CKeep.set {w : World} {g : Nat} {cs : Array Value} {fr : Nat × Nat} (hg : w.heap[g]? = some (.cells cs 43 fr)) (j : Nat) (u : Value) : CKeep w (w.setCell ⟨g, j, none⟩ u) := fun k cs2 t ht hk => by
  have hne : k ≠ g := by
    rintro rfl
    rw [hk] at hg
    injection hg with hg
    injection hg with _ h2
    exact ht h2
  exact (Below.heap_setCell w ⟨g, j, none⟩ u k hne).trans hk
/-- A row of extents stays. -/
theorem R_ckeep {w w' : World} {B : Nat} {ok : Nat → Prop} {v : Value} {xs : List XExt} (h : Kd.R k63 63 w B ok v xs) (hk : CKeep w w') : Kd.R k63 63 w' B ok v xs :=
  Kd.R_mono (Kd.R_step (Kd.R_bound h) (fun k hb _ => by
    obtain ⟨_, _, _, q, hq, cells, hc⟩ := hb
    have hq2 : q ≠ 43 := by
      rcases List.mem_cons.1 hq with rfl | hq
      · decide
      · exact absurd hq (by show ¬ q ∈ []; simp)
    rw [hc, hk k cells q hq2 hc])) (fun _ hk => hk.1)
/-- An entry's value. -/
def EntV (w : World) (B : Nat) (v : Value) (e : XEnt) : Prop := ∃ sv, v = .agg #[.int .i64 e.1, sv] ∧ Kd.R k63 63 w B (fun _ => True) sv e.2
/-- A map's entries. -/
def Ents (w : World) (B : Nat) : List MapEntry → List (Int × XEnt) → Prop
  | [], [] => True
  | e :: es, x :: m => e.key = .int .i64 x.1 ∧ EntV w B e.val x.2 ∧ Ents w B es m
  | _, _ => False
theorem EntV.keep {w w' : World} {B : Nat} {v : Value} {e : XEnt} (h : EntV w B v e) (hk : CKeep w w') : EntV w' B v e := by
  obtain ⟨sv, rfl, hr⟩ := h
  exact ⟨sv, rfl, R_ckeep hr hk⟩
theorem Ents.keep {w w' : World} {B : Nat} (hk : CKeep w w') : ∀ {es : List MapEntry} {m : List (Int × XEnt)}, Ents w B es m → Ents w' B es m
  | [], [], _ => trivial
  | _ :: _, _ :: _, h => ⟨h.1, h.2.1.keep hk, Ents.keep hk h.2.2⟩
  | [], _ :: _, h => h.elim
  | _ :: _, [], h => h.elim
/-- A file's entry; one put in; one taken out. -/
def lookE (f : Int) : List (Int × XEnt) → Option XEnt
  | [] => none
  | x :: m => if f = x.1 then some x.2 else lookE f m
def putE (f : Int) (e : XEnt) : List (Int × XEnt) → List (Int × XEnt)
  | [] => [(f, e)]
  | x :: m => if f = x.1 then (f, e) :: m else x :: putE f e m
def dropE (f : Int) : List (Int × XEnt) → List (Int × XEnt)
  | [] => []
  | x :: m => if f = x.1 then m else x :: dropE f m
theorem dropE_none (f : Int) : ∀ m, lookE f m = none → dropE f m = m
  | [], _ => rfl
  | x :: m, h => by
    rw [lookE] at h
    split at h
    · cases h
    · rename_i hc
      rw [dropE, if_neg hc, dropE_none f m h]
theorem Ents.snoc {w : World} {B : Nat} {f : Int} {e : XEnt} {v : Value} {cl : Nat} (hv : EntV w B v e) : ∀ {es : List MapEntry} {m : List (Int × XEnt)}, Ents w B es m → lookE f m = none → Ents w B (es ++ [{ key := .int .i64 f, val := v, born := cl }]) (putE f e m)
  | [], [], _, _ => ⟨rfl, hv, trivial⟩
  | a :: es, x :: m, h, hn => by
    rw [lookE] at hn
    split at hn
    · cases hn
    · rename_i hc
      rw [putE, if_neg hc]
      exact ⟨h.1, h.2.1, Ents.snoc hv h.2.2 hn⟩
  | [], _ :: _, h, _ => h.elim
  | _ :: _, [], h, _ => h.elim
theorem find_none {w : World} {B : Nat} {f : Int} : ∀ {es : List MapEntry} {m : List (Int × XEnt)} (i : Nat), Ents w B es m → lookE f m = none → Instr.findNow (.int .i64) (.int .i64 f) es i = some none
  | [], [], _, _, _ => rfl
  | a :: es, x :: m, i, h, hn => by
    rw [lookE] at hn
    split at hn
    · cases hn
    · rename_i hc
      rw [Instr.findNow, h.1]
      have : Instr.sameNow (.int .i64) (.int .i64 f) (.int .i64 x.1) = some false := by
        show (if IntKind.i64 = IntKind.i64 then some (f == x.1) else none) = some false
        rw [if_pos rfl, beq_eq_false_iff_ne.2 hc]
      rw [this]
      exact find_none (i + 1) h.2.2 hn
  | [], _ :: _, _, h, _ => h.elim
  | _ :: _, [], _, h, _ => h.elim
theorem find_some {w : World} {B : Nat} {f : Int} {e : XEnt} : ∀ {es : List MapEntry} {m : List (Int × XEnt)} (i : Nat), Ents w B es m → lookE f m = some e →
    ∃ j v, Instr.findNow (.int .i64) (.int .i64 f) es i = some (some (i + j, v)) ∧ EntV w B v e ∧ (∃ a, es[j]? = some a ∧ a.key = .int .i64 f) ∧ Ents w B (es.eraseIdx j) (dropE f m) ∧ (∀ w' B' e' v', CKeep w w' → EntV w' B v' e' → B' = B → Ents w' B (es.modify j fun a => { a with key := .int .i64 f, val := v' }) (putE f e' m))
  | [], [], _, _, hn => by cases hn
  | a :: es, x :: m, i, h, hn => by
    rw [lookE] at hn
    by_cases hc : f = x.1
    · rw [if_pos hc] at hn
      obtain rfl := Option.some.inj hn
      have hs : Instr.sameNow (.int .i64) (.int .i64 f) (.int .i64 x.1) = some true := by
        show (if IntKind.i64 = IntKind.i64 then some (f == x.1) else none) = some true
        rw [if_pos rfl, beq_iff_eq.2 hc]
      refine ⟨0, a.val, by rw [Instr.findNow, h.1, hs]; rfl, h.2.1, ⟨a, rfl, by rw [h.1, hc]⟩, ?_, fun w' B' e' v' hk hv _ => ?_⟩
      · rw [dropE, if_pos hc]; exact h.2.2
      · rw [putE, if_pos hc]
        exact ⟨rfl, hv, h.2.2.keep hk⟩
    · rw [if_neg hc] at hn
      have hs : Instr.sameNow (.int .i64) (.int .i64 f) (.int .i64 x.1) = some false := by
        show (if IntKind.i64 = IntKind.i64 then some (f == x.1) else none) = some false
        rw [if_pos rfl, beq_eq_false_iff_ne.2 hc]
      obtain ⟨j, v, h1, h2, h3, h4, h5⟩ := find_some (i + 1) h.2.2 hn
      refine ⟨j + 1, v, by rw [Instr.findNow, h.1, hs]; rw [h1, show i + 1 + j = i + (j + 1) by omega], h2, by simpa using h3, ?_, fun w' B' e' v' hk hv hB => ?_⟩
      · rw [dropE, if_neg hc]
        exact ⟨h.1, h.2.1, h4⟩
      · rw [putE, if_neg hc]
        exact ⟨h.1, h.2.1.keep hk, h5 w' B' e' v' hk hv hB⟩
  | [], _ :: _, _, h, _ => h.elim
  | _ :: _, [], _, h, _ => h.elim
/-- A Cache at block g: its files, its counts. -/
def CacheIs (B g : Nat) (m : List (Int × XEnt)) (a b c : Int) (w : World) : Prop := B ≤ g ∧ ∃ mv, w.heap[g]? = some (.cells #[mv, .int .i64 a, .int .i64 b, .int .i64 c] 43 (0, 0)) ∧ ((mv = .map none ∧ m = []) ∨ ∃ mb es cl, mv = .map (some mb) ∧ B ≤ mb ∧ w.heap[mb]? = some (.map es cl) ∧ Ents w B es.toList m)
theorem CacheIs.below {B g : Nat} {m : List (Int × XEnt)} {a b c : Int} {w w' : World} (h : CacheIs B g m a b c w) (hb : Below w.heap.size w w') : CacheIs B g m a b c w' := by
  obtain ⟨h1, mv, h2, h3⟩ := h
  refine ⟨h1, mv, blk_below h2 hb, ?_⟩
  rcases h3 with h3 | ⟨mb, es, cl, e1, e2, e3, e4⟩
  · exact .inl h3
  · refine .inr ⟨mb, es, cl, e1, e2, ?_, e4.keep (CKeep.of_below hb)⟩
    have hlt : mb < w.heap.size := by
      rcases Nat.lt_or_ge mb w.heap.size with h | h
      · exact h
      · rw [Array.getElem?_eq_none h] at e3; cases e3
    exact (hb.block mb hlt).trans e3
theorem CacheIs.drew {B g : Nat} {m : List (Int × XEnt)} {a b c : Int} {w : World} (h : CacheIs B g m a b c w) : CacheIs B g m a b c w.drew := h.below (Below.refl _ _).drew
theorem CacheIs.new {B : Nat} {w w' : World} (h : w'.heap[w.heap.size]? = some (.cells #[.map none, .int .i64 0, .int .i64 0, .int .i64 0] 43 (0, 0))) (hB : B ≤ w.heap.size) : CacheIs B w.heap.size [] 0 0 0 w' :=
  ⟨hB, .map none, h, .inl ⟨rfl, rfl⟩⟩
section
variable {w : World}
theorem x_check (em : Bool) (f : Int) : (Instr.checkKey em 10000 3 (.int .i64 f)).run Tryd.prog w = .ok () w := by
  rw [show (10000 : Nat) = 9999 + 1 from rfl, Instr.checkKey]
  simp [run_underlying Tryd.underlying3, Result.andThen]
theorem x_find (f : Int) (es : List MapEntry) {r : Option (Nat × Value)} (h : Instr.findNow (.int .i64) (.int .i64 f) es 0 = some r) : (Instr.findKey 3 (.int .i64 f) es).run Tryd.prog w = .ok r w := by
  simp [Instr.findKey, run_underlying Tryd.underlying3, h, Result.andThen]
theorem x_zero : (zeroValue 46).run Tryd.prog w = .ok (.agg #[.int .i64 0, .slice none 0 0]) w := by kernel_rfl
theorem x_look_nil (f : Int) : (Instr.lookup 41 (.map none) (.int .i64 f) true).run Tryd.prog w = .ok (.tuple #[.agg #[.int .i64 0, .slice none 0 0], .bool false]) w := by
  simp [Instr.lookup, run_underlying Tryd.underlying41, x_check, x_find f [] (r := none) rfl, x_zero, Result.andThen]
theorem x_look_none {mb cl : Nat} {es : Array MapEntry} (hb : w.heap[mb]? = some (.map es cl)) (f : Int) (h : Instr.findNow (.int .i64) (.int .i64 f) es.toList 0 = some none) : (Instr.lookup 41 (.map (some mb)) (.int .i64 f) true).run Tryd.prog w = .ok (.tuple #[.agg #[.int .i64 0, .slice none 0 0], .bool false]) w := by
  simp [Instr.lookup, run_underlying Tryd.underlying41, MapKept.run_getObj_map hb, x_check, x_find f _ h, x_zero, Result.andThen]
theorem x_look_some {mb cl j : Nat} {es : Array MapEntry} {v : Value} (hb : w.heap[mb]? = some (.map es cl)) (f : Int) (h : Instr.findNow (.int .i64) (.int .i64 f) es.toList 0 = some (some (j, v))) : (Instr.lookup 41 (.map (some mb)) (.int .i64 f) true).run Tryd.prog w = .ok (.tuple #[v, .bool true]) w := by
  simp [Instr.lookup, run_underlying Tryd.underlying41, MapKept.run_getObj_map hb, x_check, x_find f _ h, Result.andThen]
theorem x_del_nil (f : Int) (ty : TypeId) : (Builtin.delete_ #[41, 3] ty #[.map none, .int .i64 f]).run Tryd.prog w = .ok (.tuple #[]) w := by
  simp [Builtin.delete_, run_underlying Tryd.underlying41, x_check, Result.andThen]
theorem x_del_none {mb cl : Nat} {es : Array MapEntry} (hb : w.heap[mb]? = some (.map es cl)) (f : Int) (ty : TypeId) (h : Instr.findNow (.int .i64) (.int .i64 f) es.toList 0 = some none) : (Builtin.delete_ #[41, 3] ty #[.map (some mb), .int .i64 f]).run Tryd.prog w = .ok (.tuple #[]) (ChangeMaps.setBlock w mb (.map es cl)) := by
  simp [Builtin.delete_, run_underlying Tryd.underlying41, MapKept.run_getObj_map hb, x_check, x_find f _ h, MapKept.run_setObj_map _ hb, Result.andThen, ChangeMaps.setBlock]
theorem x_del_some {mb cl j : Nat} {es : Array MapEntry} {v : Value} (hb : w.heap[mb]? = some (.map es cl)) (f : Int) (ty : TypeId) (h : Instr.findNow (.int .i64) (.int .i64 f) es.toList 0 = some (some (j, v))) : (Builtin.delete_ #[41, 3] ty #[.map (some mb), .int .i64 f]).run Tryd.prog w = .ok (.tuple #[]) (ChangeMaps.setBlock w mb (.map (es.eraseIdxIfInBounds j) cl)) := by
  simp [Builtin.delete_, run_underlying Tryd.underlying41, MapKept.run_getObj_map hb, x_check, x_find f _ h, MapKept.run_setObj_map _ hb, Result.andThen, ChangeMaps.setBlock]
theorem x_put_none {mb cl : Nat} {es : Array MapEntry} (hb : w.heap[mb]? = some (.map es cl)) (f : Int) (v : Value) (h : Instr.findNow (.int .i64) (.int .i64 f) es.toList 0 = some none) : (Instr.mapUpdate 41 (.map (some mb)) (.int .i64 f) v).run Tryd.prog w = .ok () (ChangeMaps.setBlock w mb (.map (es.push { key := .int .i64 f, val := v, born := cl }) (cl + 1))) := by
  simp [Instr.mapUpdate, run_underlying Tryd.underlying41, MapKept.run_getObj_map hb, x_check, x_find f _ h, MapKept.run_setObj_map _ hb, Result.andThen, ChangeMaps.setBlock]
theorem x_put_some {mb cl j : Nat} {es : Array MapEntry} {v0 : Value} {a : MapEntry} (hb : w.heap[mb]? = some (.map es cl)) (f : Int) (v : Value) (h : Instr.findNow (.int .i64) (.int .i64 f) es.toList 0 = some (some (j, v0))) (ha : es[j]? = some a) (hk : a.key = .int .i64 f) : (Instr.mapUpdate 41 (.map (some mb)) (.int .i64 f) v).run Tryd.prog w = .ok () (ChangeMaps.setBlock w mb (.map (es.modify j fun e => { e with key := .int .i64 f, val := v }) cl)) := by
  have hs : Instr.sameBits 10000 (.int .i64 f) (.int .i64 f) = true := by simp [Instr.sameBits]
  simp [Instr.mapUpdate, run_underlying Tryd.underlying41, MapKept.run_getObj_map hb, x_check, x_find f _ h, MapKept.run_setObj_map _ hb, Result.andThen, ChangeMaps.setBlock, ha, hk, Instr.keyThatStays, hs]
end
section
variable {w : World} {ops : Array Oper} {rest : List Oper} {o : Oper} {a : Act} {Q : Exit → Act → World → Prop}
theorem wpl_lookup (hg : o.guard = none) (m x : Operand) (t : TypeId) (hop : o.op = Op.lookup t m x true) (v : Value) (hrun : (Instr.lookup t (a.eval m) (a.eval x) true).run Tryd.prog w = .ok v w) (hK : wpList Tryd.prog ops Q rest (a.put o.dst v) w) : wpList Tryd.prog ops Q (o :: rest) a w := by
  refine wpList_plain hg fun K' hK' => ?_
  unfold Oper.wp
  simp [execOp, hop, hrun, Result.andThen]
  exact hK' _ _ hK
theorem wpl_delete (hg : o.guard = none) (m x : Operand) (t k : TypeId) (hop : o.op = Op.call { callee := Callee.builtin Builtin.delete, args := #[m, x], argTypes := #[t, k] }) (w' : World) (hrun : (Builtin.delete_ #[t, k] o.type #[a.eval m, a.eval x]).run Tryd.prog w = .ok (.tuple #[]) w') (hK : wpList Tryd.prog ops Q rest (a.put o.dst (.tuple #[])) w') : wpList Tryd.prog ops Q (o :: rest) a w := by
  refine wpList_plain hg fun K' hK' => ?_
  unfold Oper.wp
  simp [execOp, hop, resolve, invoke, builtin, hrun, Result.andThen]
  exact hK' _ _ hK
end
theorem x_set_keep {w : World} {mb cl : Nat} {es : Array MapEntry} (hb : w.heap[mb]? = some (.map es cl)) (o : Obj) : CKeep w (ChangeMaps.setBlock w mb o) := fun k cs t _ hk => by
  have hne : k ≠ mb := by
    rintro rfl
    rw [hk] at hb; cases hb
  exact (ChangeMaps.heap_setBlock_other hb o hne).trans hk
theorem x_set_below {B : Nat} {w0 w : World} {mb cl : Nat} {es : Array MapEntry} (hB : Below B w0 w) (hb : w.heap[mb]? = some (.map es cl)) (hm : B ≤ mb) (o : Obj) : Below B w0 (ChangeMaps.setBlock w mb o) := by
  refine ⟨hB.os, hB.tape, hB.output, ?_, fun k hk => ?_⟩
  · show w0.heap.size ≤ (w.heap.setIfInBounds mb o).size
    rw [Array.size_setIfInBounds]; exact hB.size
  · exact (ChangeMaps.heap_setBlock_other hb o (by omega)).trans (hB.block k hk)


end Go.Proofs.YtngokgliagkohaaDoor.VXlatOthers
