/- Contracts of functions of this seat: each call comes to what its Lean function computes; no condition beyond what each theorem states. Printed by a program of this session's own laid over the kit's printer. -/
import Derived.Test.YtegcaniikdibdaaGreatDoorProg
import Derived.Below
import Derived.Deep.Draws
import Derived.Deep.AppendLies
import Derived.Maps.AppendAt
import Derived.OwnWalk
import Derived.Laws.BytesArg
import Derived.Laws.MakeOwn
import Derived.Laws.OwnMore
import Derived.Deep.OwnRows
import Derived.Tactics
import Derived.Lib.ConvBytes
import Derived.Laws.Slices
import Derived.WalkKit
import Derived.KernelRfl
import Derived.RowKit3
import Derived.Deep.LoopGhost
import Derived.Deep.QuietTactic
import Derived.BigQuiet
import Derived.WideLaws
import Derived.Deep.DeepCutAuto
import Derived.Deep.CutBlock
import Derived.Deep.RegionHeld3
import Derived.Laws.Rows
import Derived.Lib.AppendStr
import Derived.ArgAppend
import Derived.Laws.IdiomCopy
import Derived.OrdersHeld
import Derived.Laws.BitsLemmas
import Derived.RowKit
import Derived.Test.YtegcaniikdibdaaGreatDoorQPagePutsAll
import Derived.Laws.Cover1
namespace Go.Proofs.YtegcaniikdibdaaGreatDoor.VPagePuts
open Go.RowKit Go.Proofs.YtegcaniikdibdaaGreatDoorW.PrintWords Go.Proofs.YtegcaniikdibdaaGreatDoorW.PrintLast Go.Proofs.YtegcaniikdibdaaGreatDoorW.PrintMore
attribute [local go_sem] max2_int min2_int max_two min_two max_three min_three max_four min_four   -- for this text's walks alone
set_option linter.unusedSimpArgs false
set_option linter.unusedVariables false
abbrev A0k := @Go.Proofs.YtegcaniikdibdaaGreatDoorW.PrintWords.Aside0.mk
abbrev bA := @Go.Proofs.YtegcaniikdibdaaGreatDoorW.PrintWords.blk_alloc
abbrev bB := @Go.Proofs.YtegcaniikdibdaaGreatDoorW.PrintWords.blk_below
abbrev bC := @Go.Proofs.YtegcaniikdibdaaGreatDoorW.PrintWords.blk_cell
abbrev bD := @Go.Proofs.YtegcaniikdibdaaGreatDoorW.PrintWords.blk_drew
abbrev bE := @Go.Proofs.YtegcaniikdibdaaGreatDoorW.PrintWords.box_event
abbrev bF := @Go.Proofs.YtegcaniikdibdaaGreatDoorW.PrintWords.blk_frozen
abbrev bL := @Go.Proofs.YtegcaniikdibdaaGreatDoorW.PrintWords.blk_lt
abbrev bN := @Go.Proofs.YtegcaniikdibdaaGreatDoorW.PrintWords.blk_drewN
abbrev bP := @Go.Proofs.YtegcaniikdibdaaGreatDoorW.PrintWords.blk_put
abbrev bR := @Go.Proofs.YtegcaniikdibdaaGreatDoorW.PrintWords.blk_far
abbrev bS := @Go.Proofs.YtegcaniikdibdaaGreatDoorW.PrintWords.below_set
abbrev cF := @Go.Proofs.YtegcaniikdibdaaGreatDoorW.PrintWords.cell_far
abbrev gB := @Go.Proofs.YtegcaniikdibdaaGreatDoorW.PrintWords.gate_builtin
abbrev gC := @Go.Proofs.YtegcaniikdibdaaGreatDoorW.PrintWords.gate_callee
abbrev gD := @Go.Proofs.YtegcaniikdibdaaGreatDoorW.PrintWords.gate_dst
abbrev gG := @Go.Proofs.YtegcaniikdibdaaGreatDoorW.PrintWords.gate_guard
abbrev gL_ := @Go.Proofs.YtegcaniikdibdaaGreatDoorW.PrintLast.goesL_
abbrev lC := @List.set_cons_succ
abbrev lS := @List.setIfInBounds_toArray
abbrev lZ := @List.set_cons_zero
abbrev pA := @Go.Proofs.YtegcaniikdibdaaGreatDoorW.PrintWords.below_alloc
abbrev pD := @Go.Proofs.YtegcaniikdibdaaGreatDoorW.PrintWords.below_drew1
abbrev pN := @Go.Proofs.YtegcaniikdibdaaGreatDoorW.PrintWords.pw_below_drewN
abbrev pS := @Go.Proofs.YtegcaniikdibdaaGreatDoorW.PrintWords.below_step
abbrev pZ := @Go.Proofs.YtegcaniikdibdaaGreatDoorW.PrintWords.below_size
abbrev rA := @Go.Proofs.YtegcaniikdibdaaGreatDoorW.PrintWords.Kd.R_alloc
abbrev rD := @Go.Proofs.YtegcaniikdibdaaGreatDoorW.PrintWords.Kd.R_drew
abbrev rN := @Go.Proofs.YtegcaniikdibdaaGreatDoorW.PrintWords.Kd.R_drewN
theorem zp {P : Program} {md : Region.Mode} {ops : Array Oper} {Q : Exit → Act → World → Prop} {S : World → Prop} {ds : List Nat} {fuel : Nat} {l : Array Bool} {a a' : Act} {w : World} {oi : Oper} {v : Value} (i : Nat) (N : Tmp) (l' : Array Bool) (h : wpAnyLast P md ops Q S ds fuel l' a' w) (hi : ops[i]? = some oi := by rfl) (hN : oi.dst = some N := by rfl) (hc : anyB md ops l l' i = true := by first | exact any_of HT_.out (by kernel_rfl) | kernel_rfl) (hQ : ∀ c a w, Q (.panic c) (a.put oi.dst v) w → Q (.panic c) a w := by exact fun _ _ _ h => h) (hy : Yields P ops oi v a := by refine Or.inl ⟨by rfl, ?_⟩; intro w'; go_simp; with_reducible rfl) (ha : a.put (some N) v = a' := by simp only [Act.put, lS, lZ, lC, i64_w, i32_w]; rfl) : wpAnyLast P md ops Q S ds (fuel + 1) l a w := pure_ l' hi hN hc hQ hy ha h
theorem zu {P : Program} {md : Region.Mode} {ops : Array Oper} {Q : Exit → Act → World → Prop} {S : World → Prop} {ds : List Nat} {fuel : Nat} {l : Array Bool} {a a' : Act} {w : World} {oi : Oper} (i : Nat) (N : Tmp) (l' : Array Bool) (h : wpAnyLast P md ops Q S ds fuel l' a' w) (hi : ops[i]? = some oi := by rfl) (hN : oi.dst = some N := by rfl) (hc : anyB md ops l l' i = true := by first | exact any_of HT_.out (by kernel_rfl) | kernel_rfl) (hQ : ∀ c a w, Q (.panic c) (a.put oi.dst undef) w → Q (.panic c) a w := by exact fun _ _ _ h => h) (hy : Yields P ops oi undef a := by exact Or.inr ⟨by rfl, rfl⟩) (ha : a.put (some N) undef = a' := by simp only [Act.put, lS, lZ, lC, i64_w, i32_w]; rfl) : wpAnyLast P md ops Q S ds (fuel + 1) l a w := pure_ l' hi hN hc hQ hy ha h
theorem zt2 {P : Program} {md : Region.Mode} {ops : Array Oper} {Q : Exit → Act → World → Prop} {S : World → Prop} {ds : List Nat} {fuel : Nat} {l : Array Bool} {a a' : Act} {w : World} {oi : Oper} {v : Value} (i : Nat) (N : Tmp) (l' : Array Bool) (hS : S w) (h : wpAnyLast P md ops Q S ds fuel l' a' w) (hi : ops[i]? = some oi := by rfl) (hN : oi.dst = some N := by rfl) (hc : takeB md ops ds l l' i = true := by first | exact take_ofW HT_.out HW_.out (by kernel_rfl) | kernel_rfl) (hQ : ∀ c a w, Q (.panic c) (a.put oi.dst v) w → Q (.panic c) a w := by exact fun _ _ _ h => h) (hy : YieldsIf P ops S oi v a := by refine Or.inl ⟨by rfl, ?_⟩; rintro w' ⟨s0, s1⟩; go_simp; with_reducible rfl) (ha : a.put (some N) v = a' := by simp only [Act.put, lS, lZ, lC, i64_w, i32_w]; rfl) : wpAnyLast P md ops Q S ds (fuel + 1) l a w := take_ l' hi hN hc hQ hy hS ha h
theorem zt3 {P : Program} {md : Region.Mode} {ops : Array Oper} {Q : Exit → Act → World → Prop} {S : World → Prop} {ds : List Nat} {fuel : Nat} {l : Array Bool} {a a' : Act} {w : World} {oi : Oper} {v : Value} (i : Nat) (N : Tmp) (l' : Array Bool) (hS : S w) (h : wpAnyLast P md ops Q S ds fuel l' a' w) (hi : ops[i]? = some oi := by rfl) (hN : oi.dst = some N := by rfl) (hc : takeB md ops ds l l' i = true := by first | exact take_ofW HT_.out HW_.out (by kernel_rfl) | kernel_rfl) (hQ : ∀ c a w, Q (.panic c) (a.put oi.dst v) w → Q (.panic c) a w := by exact fun _ _ _ h => h) (hy : YieldsIf P ops S oi v a := by refine Or.inl ⟨by rfl, ?_⟩; rintro w' ⟨s0, s1, s2⟩; go_simp; with_reducible rfl) (ha : a.put (some N) v = a' := by simp only [Act.put, lS, lZ, lC, i64_w, i32_w]; rfl) : wpAnyLast P md ops Q S ds (fuel + 1) l a w := take_ l' hi hN hc hQ hy hS ha h
theorem zt4 {P : Program} {md : Region.Mode} {ops : Array Oper} {Q : Exit → Act → World → Prop} {S : World → Prop} {ds : List Nat} {fuel : Nat} {l : Array Bool} {a a' : Act} {w : World} {oi : Oper} {v : Value} (i : Nat) (N : Tmp) (l' : Array Bool) (hS : S w) (h : wpAnyLast P md ops Q S ds fuel l' a' w) (hi : ops[i]? = some oi := by rfl) (hN : oi.dst = some N := by rfl) (hc : takeB md ops ds l l' i = true := by first | exact take_ofW HT_.out HW_.out (by kernel_rfl) | kernel_rfl) (hQ : ∀ c a w, Q (.panic c) (a.put oi.dst v) w → Q (.panic c) a w := by exact fun _ _ _ h => h) (hy : YieldsIf P ops S oi v a := by refine Or.inl ⟨by rfl, ?_⟩; rintro w' ⟨s0, s1, s2, s3⟩; go_simp; with_reducible rfl) (ha : a.put (some N) v = a' := by simp only [Act.put, lS, lZ, lC, i64_w, i32_w]; rfl) : wpAnyLast P md ops Q S ds (fuel + 1) l a w := take_ l' hi hN hc hQ hy hS ha h
theorem zt5 {P : Program} {md : Region.Mode} {ops : Array Oper} {Q : Exit → Act → World → Prop} {S : World → Prop} {ds : List Nat} {fuel : Nat} {l : Array Bool} {a a' : Act} {w : World} {oi : Oper} {v : Value} (i : Nat) (N : Tmp) (l' : Array Bool) (hS : S w) (h : wpAnyLast P md ops Q S ds fuel l' a' w) (hi : ops[i]? = some oi := by rfl) (hN : oi.dst = some N := by rfl) (hc : takeB md ops ds l l' i = true := by first | exact take_ofW HT_.out HW_.out (by kernel_rfl) | kernel_rfl) (hQ : ∀ c a w, Q (.panic c) (a.put oi.dst v) w → Q (.panic c) a w := by exact fun _ _ _ h => h) (hy : YieldsIf P ops S oi v a := by refine Or.inl ⟨by rfl, ?_⟩; rintro w' ⟨s0, s1, s2, s3, s4⟩; go_simp; with_reducible rfl) (ha : a.put (some N) v = a' := by simp only [Act.put, lS, lZ, lC, i64_w, i32_w]; rfl) : wpAnyLast P md ops Q S ds (fuel + 1) l a w := take_ l' hi hN hc hQ hy hS ha h
theorem zt6 {P : Program} {md : Region.Mode} {ops : Array Oper} {Q : Exit → Act → World → Prop} {S : World → Prop} {ds : List Nat} {fuel : Nat} {l : Array Bool} {a a' : Act} {w : World} {oi : Oper} {v : Value} (i : Nat) (N : Tmp) (l' : Array Bool) (hS : S w) (h : wpAnyLast P md ops Q S ds fuel l' a' w) (hi : ops[i]? = some oi := by rfl) (hN : oi.dst = some N := by rfl) (hc : takeB md ops ds l l' i = true := by first | exact take_ofW HT_.out HW_.out (by kernel_rfl) | kernel_rfl) (hQ : ∀ c a w, Q (.panic c) (a.put oi.dst v) w → Q (.panic c) a w := by exact fun _ _ _ h => h) (hy : YieldsIf P ops S oi v a := by refine Or.inl ⟨by rfl, ?_⟩; rintro w' ⟨s0, s1, s2, s3, s4, s5⟩; go_simp; with_reducible rfl) (ha : a.put (some N) v = a' := by simp only [Act.put, lS, lZ, lC, i64_w, i32_w]; rfl) : wpAnyLast P md ops Q S ds (fuel + 1) l a w := take_ l' hi hN hc hQ hy hS ha h
theorem zt8 {P : Program} {md : Region.Mode} {ops : Array Oper} {Q : Exit → Act → World → Prop} {S : World → Prop} {ds : List Nat} {fuel : Nat} {l : Array Bool} {a a' : Act} {w : World} {oi : Oper} {v : Value} (i : Nat) (N : Tmp) (l' : Array Bool) (hS : S w) (h : wpAnyLast P md ops Q S ds fuel l' a' w) (hi : ops[i]? = some oi := by rfl) (hN : oi.dst = some N := by rfl) (hc : takeB md ops ds l l' i = true := by first | exact take_ofW HT_.out HW_.out (by kernel_rfl) | kernel_rfl) (hQ : ∀ c a w, Q (.panic c) (a.put oi.dst v) w → Q (.panic c) a w := by exact fun _ _ _ h => h) (hy : YieldsIf P ops S oi v a := by refine Or.inl ⟨by rfl, ?_⟩; rintro w' ⟨s0, s1, s2, s3, s4, s5, s6, s7⟩; go_simp; with_reducible rfl) (ha : a.put (some N) v = a' := by simp only [Act.put, lS, lZ, lC, i64_w, i32_w]; rfl) : wpAnyLast P md ops Q S ds (fuel + 1) l a w := take_ l' hi hN hc hQ hy hS ha h
theorem zt10 {P : Program} {md : Region.Mode} {ops : Array Oper} {Q : Exit → Act → World → Prop} {S : World → Prop} {ds : List Nat} {fuel : Nat} {l : Array Bool} {a a' : Act} {w : World} {oi : Oper} {v : Value} (i : Nat) (N : Tmp) (l' : Array Bool) (hS : S w) (h : wpAnyLast P md ops Q S ds fuel l' a' w) (hi : ops[i]? = some oi := by rfl) (hN : oi.dst = some N := by rfl) (hc : takeB md ops ds l l' i = true := by first | exact take_ofW HT_.out HW_.out (by kernel_rfl) | kernel_rfl) (hQ : ∀ c a w, Q (.panic c) (a.put oi.dst v) w → Q (.panic c) a w := by exact fun _ _ _ h => h) (hy : YieldsIf P ops S oi v a := by refine Or.inl ⟨by rfl, ?_⟩; rintro w' ⟨s0, s1, s2, s3, s4, s5, s6, s7, s8, s9⟩; go_simp; with_reducible rfl) (ha : a.put (some N) v = a' := by simp only [Act.put, lS, lZ, lC, i64_w, i32_w]; rfl) : wpAnyLast P md ops Q S ds (fuel + 1) l a w := take_ l' hi hN hc hQ hy hS ha h
theorem zn {P : Program} {md : Region.Mode} {ops : Array Oper} {Q : Exit → Act → World → Prop} {S : World → Prop} {ds : List Nat} {fuel : Nat} {l : Array Bool} {a a' : Act} {w : World} (h : wpAnyLast P md ops Q S ds fuel l a' w) (ha : a = a' := by show Act.put _ (some _) _ = _; simp only [Act.put, lS, lZ, lC, i64_w, i32_w]; rfl) : wpAnyLast P md ops Q S ds fuel l a w := norm_ ha h
theorem zm {P : Program} {md : Region.Mode} {ops : Array Oper} {Q : Exit → Act → World → Prop} {S : World → Prop} {ds : List Nat} {fuel : Nat} {l : Array Bool} {a a' : Act} {w : World} (h : wpAnyLast P md ops Q S ds fuel l a' w) (ha : a = a' := by simp only [putAll, Act.put, lS, lZ, lC]; rfl) : wpAnyLast P md ops Q S ds fuel l a w := norm_ ha h
theorem zo {P : Program} {md : Region.Mode} {ops : Array Oper} {Q : Exit → Act → World → Prop} {S : World → Prop} {ds : List Nat} {fuel : Nat} {l : Array Bool} {a : Act} {w : World} {oi : Oper} (i : Nat) (N : Tmp) (l' : Array Bool) (h : ∀ K : Act → World → Prop, Shut (∀ a' w', S w' → (S w' → wpAnyLast P md ops Q S ds fuel l' a' w') → K a' w') → if Region.wanted oi (yielded ops a.tmps) = true then Oper.wp P oi a w K Q else K (a.put (some N) undef) w) (hi : ops[i]? = some oi := by rfl) (hN : oi.dst = some N := by rfl) (hc : readyB md ops l l' i = true := by first | exact one_of HT_.out (by kernel_rfl) | kernel_rfl) (hd : i ∉ ds := by decide) : wpAnyLast P md ops Q S ds (fuel + 1) l a w := one_ l' hi hN hc hd h
theorem zf4 {W : World} {g : Nat} {a0 a1 a2 a3 : Value} {t : TypeId} (h : W.heap[g]? = some (.cells #[a0, a1, a2, a3] t (0, 0))) : W.cell? ⟨g, 0, none⟩ = some a0 ∧ W.cell? ⟨g, 1, none⟩ = some a1 ∧ W.cell? ⟨g, 2, none⟩ = some a2 ∧ W.cell? ⟨g, 3, none⟩ = some a3 ∧ W.frozen? ⟨g, 0, none⟩ = false ∧ W.frozen? ⟨g, 1, none⟩ = false ∧ W.frozen? ⟨g, 2, none⟩ = false ∧ W.frozen? ⟨g, 3, none⟩ = false := ⟨(blk_cell h 0).trans rfl, (blk_cell h 1).trans rfl, (blk_cell h 2).trans rfl, (blk_cell h 3).trans rfl, blk_frozen h 0, blk_frozen h 1, blk_frozen h 2, blk_frozen h 3⟩
theorem zf5 {W : World} {g : Nat} {a0 a1 a2 a3 a4 : Value} {t : TypeId} (h : W.heap[g]? = some (.cells #[a0, a1, a2, a3, a4] t (0, 0))) : W.cell? ⟨g, 0, none⟩ = some a0 ∧ W.cell? ⟨g, 1, none⟩ = some a1 ∧ W.cell? ⟨g, 2, none⟩ = some a2 ∧ W.cell? ⟨g, 3, none⟩ = some a3 ∧ W.cell? ⟨g, 4, none⟩ = some a4 ∧ W.frozen? ⟨g, 0, none⟩ = false ∧ W.frozen? ⟨g, 1, none⟩ = false ∧ W.frozen? ⟨g, 2, none⟩ = false ∧ W.frozen? ⟨g, 3, none⟩ = false ∧ W.frozen? ⟨g, 4, none⟩ = false := ⟨(blk_cell h 0).trans rfl, (blk_cell h 1).trans rfl, (blk_cell h 2).trans rfl, (blk_cell h 3).trans rfl, (blk_cell h 4).trans rfl, blk_frozen h 0, blk_frozen h 1, blk_frozen h 2, blk_frozen h 3, blk_frozen h 4⟩
theorem bq {W : World} {g : Nat} {cs : Array Value} {t : TypeId} {v : Value} (h : W.heap[g]? = some (.cells cs t (0, 0))) (j : Nat) (e : cs[j]? = some v := by rfl) : W.cell? ⟨g, j, none⟩ = some v := (blk_cell h j).trans e
theorem z0 {p q : Prop} (h : p) (g : p → q := by intro h_; (with_reducible repeat first | apply bN | apply bD | apply bA); exact h_) : q := g h
theorem z1 {p q : Prop} (h : p) (g : p → q := by intro h_; (with_reducible repeat first | apply rA | apply rN | apply rD); exact h_) : q := g h
theorem z2 {p q : Prop} (h : p) (g : p → q := by intro h_; (with_reducible repeat (first | apply Kd.R_alloc | apply Kd.R_drewN | apply Kd.R_drew)); exact h_) : q := g h
theorem z3 {p q : Prop} (h : p) (g : p → q := by intro h_; (with_reducible repeat (first | refine blk_drewN ?_ _ | refine blk_drew ?_ | refine blk_alloc ?_ _)); exact h_) : q := g h
theorem z4 {p q : Prop} (h : p) (g : p → q := by intro h_; (with_reducible repeat first | apply bN | apply bD | apply bA); refine bP (cs := #[.int .i64 0, .slice none 0 0, .slice none 0 0, .slice none 0 0]) ?_ 3 _ rfl; (with_reducible repeat first | apply bN | apply bD | apply bA); refine bP (cs := #[.int .i64 0, .slice none 0 0, .slice none 0 0, .slice none 0 0]) ?_ 2 _ rfl; (with_reducible repeat first | apply bN | apply bD | apply bA); refine bP (cs := #[.int .i64 0, .slice none 0 0, .slice none 0 0, .slice none 0 0]) ?_ 1 _ rfl; (with_reducible repeat first | apply bN | apply bD | apply bA); refine bP (cs := #[.int .i64 0, .slice none 0 0, .slice none 0 0, .slice none 0 0]) ?_ 0 _ rfl; (with_reducible repeat first | apply bN | apply bD | apply bA); exact h_) : q := g h
theorem z5 {p q : Prop} (h : p) (g : p → q := by intro h_; (with_reducible repeat first | apply bN | apply bD | apply bA); refine bR ?_ NB151_167.out _; (with_reducible repeat first | apply bN | apply bD | apply bA); exact h_) : q := g h
theorem z6 {p : Prop} (h : p := by (try simp only [List.map_toArray, List.map_cons, List.map_nil]); first | done | rfl | (simp only [List.length_drop, List.length_take]; rfl) | (simp only [decide_eq_true_eq, decide_eq_false_iff_not, eq_iff_iff, iff_true, iff_false] at *; have w_id : ∀ {n : Int}, -9223372036854775808 ≤ n → n ≤ 9223372036854775807 → wrap64 n = n := fun h0 h1 => (by unfold wrap64; omega); rw [w_id (by omega) (by omega)]; rfl)) : p := h
theorem z7 {p : Prop} (h : p := by repeat (first | (with_reducible first | exact HB.out | apply pA | apply pN | apply pD | refine bS ?_ GE251.out | refine bS ?_ GE252.out | refine bS ?_ GE253.out) | exact HB.out)) : p := h
theorem z8 {p : Prop} (h : p := by repeat (first | (with_reducible first | exact HB.out | apply below_alloc | apply pw_below_drewN | apply below_drew1) | exact HB.out)) : p := h
theorem z9 {p : Prop} (h : p := by first | (simp only [putAll, Act.put, lS, lZ, lC]; done) | (simp only [putAll, Act.put, lS, lZ, lC]; rfl)) : p := h
theorem z10 {p : Prop} (h : p := by repeat (first | (with_reducible first | exact HB.out | apply pA | apply pN | apply pD | refine bS ?_ GE333.out) | exact HB.out)) : p := h
theorem z11 {p : Prop} (h : p := by first | (with_reducible assumption) | assumption) : p := h
theorem z12 {p : Prop} (h : p := by first | rfl | (simp [errW_none, errW_some] <;> rfl) | (simp [*, errW_none, errW_some] <;> rfl)) : p := h
theorem z13 {p : Prop} (h : p := by first | rfl | (simp; done) | (simp [*]; done)) : p := h
theorem z14 {p : Prop} (h : p := by repeat (first | (with_reducible first | exact HK.out | apply KeepBut.set_ | apply keep_drewN | apply keep_drew | apply keep_alloc) | exact HK.out)) : p := h
theorem z15 {p : Prop} (h : p := by repeat (first | (with_reducible first | exact HI0.out | apply IsS91.alloc | apply IsS91.drewN | apply IsS91.drew | apply IsS91.set_0 | apply IsS91.set_1_none | apply IsS91.set_1_some | apply IsS91.set_1) | exact HI0.out)) : p := h
theorem z16 {p : Prop} (h : p := by repeat (first | (with_reducible first | exact HB.out | apply pA | apply pN | apply pD | refine bS ?_ (IsS91.ge HI157.out) | refine bS ?_ GE151.out | refine bS ?_ GE167.out) | exact HB.out)) : p := h
theorem z17 {p : Prop} (h : p := by repeat (first | (with_reducible first | exact HB.out | apply pA | apply pN | apply pD | refine bS ?_ GE294.out | refine bS ?_ GE295.out | refine bS ?_ GE296.out) | exact HB.out)) : p := h
theorem z18 {p : Prop} (h : p := by repeat (first | (with_reducible first | exact HB.out | apply pA | apply pN | apply pD) | exact HB.out)) : p := h
theorem z19 {p : Prop} (h : p := by repeat (first | (with_reducible first | exact HB.out | apply below_alloc | apply pw_below_drewN | apply below_drew1 | refine below_set ?_ (IsS91.ge HI0.out)) | exact HB.out)) : p := h
theorem z20 {p : Prop} (h : p := by repeat (first | (with_reducible first | exact HB.out | apply pA | apply pN | apply pD | refine bS ?_ GE363.out | refine bS ?_ GE385.out | refine bS ?_ GE386.out) | exact HB.out)) : p := h
theorem z21 {p : Prop} (h : p := by repeat (first | (with_reducible first | exact HI157.out | apply IsS91.alloc | apply IsS91.drewN | apply IsS91.drew | apply IsS91.set_0 | apply IsS91.set_1_none | apply IsS91.set_1_some | apply IsS91.set_1 | refine IsS91.far ?_ NB157_151.out _ | refine IsS91.far ?_ NB157_167.out _) | exact HI157.out)) : p := h
theorem z22 {p : Prop} (h : p := by repeat (first | (with_reducible first | exact HB.out | apply pA | apply pN | apply pD | refine bS ?_ GE294.out | refine bS ?_ GE295.out | refine bS ?_ GE296.out | refine bS ?_ GE317.out) | exact HB.out)) : p := h
theorem z23 {p : Prop} (h : p := by first | exact Kd.R_nil _ _ _ _ _ | exact Kd.N_nil _ _ _ _ _ | exact Kd.V_nil _ _ _ _ _ | exact Kd.Q_nil _ _ _ _ _ | exact Kd.S_nil _ _ _ _ _) : p := h
theorem z24 {p : Prop} (h : p := by repeat (first | (with_reducible first | exact HB.out | apply below_alloc | apply pw_below_drewN | apply below_drew1 | refine below_set ?_ GE101.out) | exact HB.out)) : p := h
theorem z25 {p : Prop} (h : p := by repeat (first | (with_reducible first | exact HB.out | apply pA | apply pN | apply pD | refine bS ?_ GE355.out | refine bS ?_ GE356.out) | exact HB.out)) : p := h
theorem z26 {p : Prop} (h : p := by repeat (first | (with_reducible first | exact HB.out | apply below_alloc | apply pw_below_drewN | apply below_drew1 | refine below_set ?_ GE230.out) | exact HB.out)) : p := h
theorem z27 {p : Prop} (h : p := by repeat (first | (with_reducible first | exact HB.out | apply pA | apply pN | apply pD | refine bS ?_ GE363.out) | exact HB.out)) : p := h
theorem z28 {p : Prop} (h : p := by repeat (first | exact Drawn0.refl _ | apply Drawn0.step)) : p := h
theorem z29 {p : Prop} (h : p := by first | rfl | (rw [hr_]; rfl) | (subst hr_; rfl)) : p := h
theorem z30 {p : Prop} (h : p := by repeat (first | (with_reducible first | exact HB.out | apply pA | apply pN | apply pD | refine bS ?_ GE355.out) | exact HB.out)) : p := h
theorem z31 {p : Prop} (h : p := by first | omega | exact Nat.le_refl _) : p := h
theorem z32 {p : Prop} (h : p := by rw [hg]; exact Nat.ne_of_lt (bL (g := gb294) (o := .cells #[.int .i64 a0_0, .slice A0_1 l0_1.length c0_1, .slice A0_2 l0_2.length c0_2, .slice A0_3 l0_3.length c0_3] 29 (0, 0)) (z0 BK294.out))) : p := h
theorem z33 {p : Prop} (h : p := by rw [hg]; exact Nat.ne_of_gt (bL (g := gb294) (o := .cells #[.int .i64 a0_0, .slice A0_1 l0_1.length c0_1, .slice A0_2 l0_2.length c0_2, .slice A0_3 l0_3.length c0_3] 29 (0, 0)) (z0 BK294.out))) : p := h
theorem z34 {p : Prop} (h : p := by (with_reducible repeat first | apply rA | apply rN | apply rD); exact Kd.R_mono qc.out (fun _ hk => ⟨hk.1.1, ⟨hk.1.2, hk.2⟩⟩)) : p := h
theorem z35 {p : Prop} (h : p := by (with_reducible repeat first | apply rA | apply rN | apply rD); exact Kd.R_mono qb.out (fun _ hk => ⟨⟨hk.1.2, hk.2⟩, hk.1.1⟩)) : p := h
theorem z36 {p : Prop} (h : p := by repeat (first | (with_reducible first | exact HB.out | apply pA | apply pN | apply pD | refine bS ?_ GE151.out) | exact HB.out)) : p := h
theorem z37 {p : Prop} (h : p := by simp only [List.map_toArray, List.map_cons, List.map_nil]; rfl) : p := h
theorem z38 {p : Prop} (h : p := by rw [hg]; exact Nat.ne_of_lt (bL (g := gb295) (o := .cells #[.int .i64 0, .slice none 0 0, .slice none 0 0, .slice none 0 0] 29 (0, 0)) (z0 BK295.out))) : p := h
theorem z39 {p : Prop} (h : p := by rw [hg]; exact Nat.ne_of_gt (bL (g := gb295) (o := .cells #[.int .i64 0, .slice none 0 0, .slice none 0 0, .slice none 0 0] 29 (0, 0)) (z0 BK295.out))) : p := h
theorem z40 {p : Prop} (h : p := by (try simp only [List.map_toArray, List.map_cons, List.map_nil]); first | done | rfl | (simp only [List.length_drop, List.length_take]; rfl)) : p := h
theorem z41 {p : Prop} (h : p := by rw [hg]; exact (pZ z18)) : p := h
theorem z42 {p : Prop} (h : p := by simp only [putAll, Act.put, lS, lZ, lC]) : p := h
theorem z43 {p : Prop} (h : p := by rw [hg]; exact Nat.ne_of_lt (bL (g := gb363) (o := .cells #[.int .i64 a0_0, .slice A0_1 l0_1.length c0_1, .slice A0_2 l0_2.length c0_2, .slice A0_3 l0_3.length c0_3, .bool a0_4] 25 (0, 0)) (z0 BK363.out))) : p := h
theorem z44 {p : Prop} (h : p := by rw [hg]; exact Nat.ne_of_gt (bL (g := gb363) (o := .cells #[.int .i64 a0_0, .slice A0_1 l0_1.length c0_1, .slice A0_2 l0_2.length c0_2, .slice A0_3 l0_3.length c0_3, .bool a0_4] 25 (0, 0)) (z0 BK363.out))) : p := h
theorem z45 {p : Prop} (h : p := by repeat (first | (with_reducible first | exact HB.out | apply below_alloc | apply pw_below_drewN | apply below_drew1 | refine below_set ?_ GE230.out | refine below_set ?_ GE244.out) | exact HB.out)) : p := h
theorem z46 {p : Prop} (h : p := by rw [hg]; exact Nat.ne_of_lt (bL (g := gb355) (o := .cells #[.int .i64 a0_0, .slice A0_1 l0_1.length c0_1, .slice A0_2 l0_2.length c0_2, .slice A0_3 l0_3.length c0_3] 28 (0, 0)) (z0 BK355.out))) : p := h
theorem z47 {p : Prop} (h : p := by rw [hg]; exact Nat.ne_of_gt (bL (g := gb355) (o := .cells #[.int .i64 a0_0, .slice A0_1 l0_1.length c0_1, .slice A0_2 l0_2.length c0_2, .slice A0_3 l0_3.length c0_3] 28 (0, 0)) (z0 BK355.out))) : p := h
theorem z48 {p : Prop} (h : p := by repeat (first | (with_reducible first | exact HB.out | apply pA | apply pN | apply pD | refine bS ?_ (IsS91.ge HI157.out) | refine bS ?_ GE151.out) | exact HB.out)) : p := h
theorem z49 {p : Prop} (h : p := by repeat (first | (with_reducible first | exact HB.out | apply pA | apply pN | apply pD | refine bS ?_ GE363.out | refine bS ?_ GE385.out) | exact HB.out)) : p := h
theorem z50 {p : Prop} (h : p := by repeat (first | (with_reducible first | exact HB.out | apply pA | apply pN | apply pD | refine bS ?_ GE294.out | refine bS ?_ GE295.out) | exact HB.out)) : p := h
theorem z51 {p : Prop} (h : p := by repeat (first | (with_reducible first | exact HB.out | apply pA | apply pN | apply pD | refine bS ?_ GE251.out | refine bS ?_ GE252.out) | exact HB.out)) : p := h
theorem z52 {p : Prop} (h : p := by rw [hg]; exact Nat.ne_of_lt (bL (g := gb296) (o := .cells #[.int .i64 qf, .slice Ao58 qb.length co58, qe, qg] 29 (0, 0)) (z0 BK296.out))) : p := h
theorem z53 {p : Prop} (h : p := by rw [hg]; exact Nat.ne_of_gt (bL (g := gb296) (o := .cells #[.int .i64 qf, .slice Ao58 qb.length co58, qe, qg] 29 (0, 0)) (z0 BK296.out))) : p := h
theorem z54 {p : Prop} (h : p := by have := HK1.out; first | omega | exact Nat.le_refl _) : p := h
theorem z55 {p : Prop} (h : p := by first | rfl | rw [HI1.out]) : p := h
theorem z56 {p : Prop} (h : p := by repeat (first | (with_reducible first | exact HB.out | apply pA | apply pN | apply pD | refine bS ?_ GE294.out) | exact HB.out)) : p := h
theorem z57 {p : Prop} (h : p := by repeat (first | (with_reducible first | exact HB.out | apply pA | apply pN | apply pD | refine bS ?_ GE251.out) | exact HB.out)) : p := h
theorem z58 {p : Prop} (h : p := by first | rfl | simp) : p := h
theorem z59 {p : Prop} (h : p := by first | (simp; done) | (simp; omega)) : p := h
theorem z60 {p : Prop} (h : p := by (with_reducible repeat first | apply rA | apply rN | apply rD); exact Kd.R_mono qb.out (fun _ hk => ⟨hk.1.2, ⟨hk.2, hk.1.1⟩⟩)) : p := h
theorem z61 {p : Prop} (h : p := by (with_reducible repeat first | apply rA | apply rN | apply rD); exact Kd.R_mono qb.out (fun _ hk => ⟨hk.1.1, ⟨hk.2, hk.1.2⟩⟩)) : p := h
theorem z62 {p : Prop} (h : p := by (with_reducible repeat first | apply rA | apply rN | apply rD); exact Kd.R_mono qb.out (fun _ hk => ⟨hk.1.1, ⟨hk.1.2, hk.2⟩⟩)) : p := h
theorem z63 {p : Prop} (h : p := by (with_reducible repeat first | apply rA | apply rN | apply rD); exact Kd.R_mono HO313.out (fun _ hk => ⟨hk.1.2, hk.2⟩)) : p := h
theorem z64 {p : Prop} (h : p := by (with_reducible repeat first | apply rA | apply rN | apply rD); exact Kd.R_mono qc.out (fun _ hk => ⟨hk.2, hk.1⟩)) : p := h
theorem z65 {p : Prop} (h : p := by (with_reducible repeat first | apply rA | apply rN | apply rD); exact Kd.R_mono qb.out (fun _ hk => ⟨hk.2, hk.1⟩)) : p := h
theorem z66 {p : Prop} (h : p := by (with_reducible repeat first | apply rA | apply rN | apply rD); exact Kd.R_mono qa.out (fun _ hk => ⟨hk.2, hk.1⟩)) : p := h
theorem z67 {p : Prop} (h : p := by have h_ := c35; simp only [ByteArray.size_append] at h_; have e0_ : (⟨#[0]⟩ : ByteArray).size = 1 := rfl; omega) : p := h
theorem z68 {p : Prop} (h : p := by first | (go_simp; done) | (go_simp; rfl)) : p := h
theorem z69 {p : Prop} (h : p := by repeat (first | (with_reducible first | exact HI157.out | apply IsS91.alloc | apply IsS91.drewN | apply IsS91.drew | apply IsS91.set_0 | apply IsS91.set_1_none | apply IsS91.set_1_some | apply IsS91.set_1 | refine IsS91.far ?_ NB157_151.out _) | exact HI157.out)) : p := h
theorem z70 {p : Prop} (h : p := by repeat (first | exact (Kd.R_reads' qa.out).2.2 | (with_reducible refine Kd.C_alloc ?_ _) | (with_reducible refine Kd.C_drewN ?_ _) | (with_reducible refine Kd.C_drew ?_))) : p := h
theorem z71 {p : Prop} (h : p := by repeat (first | exact (Kd.R_reads' qc.out).2.2 | (with_reducible refine Kd.C_alloc ?_ _) | (with_reducible refine Kd.C_drewN ?_ _) | (with_reducible refine Kd.C_drew ?_))) : p := h
theorem z72 {p : Prop} (h : p := by repeat (first | exact (Kd.C_below HR0_1.out HB.out) | (with_reducible refine Kd.C_alloc ?_ _) | (with_reducible refine Kd.C_drewN ?_ _) | (with_reducible refine Kd.C_drew ?_))) : p := h
theorem z73 {p : Prop} (h : p := by repeat (first | exact (Kd.R_reads' HO257.out).2.2 | (with_reducible refine Kd.C_alloc ?_ _) | (with_reducible refine Kd.C_drewN ?_ _) | (with_reducible refine Kd.C_drew ?_))) : p := h
theorem z74 {p : Prop} (h : p := by repeat (first | exact (Kd.R_reads' HO271.out).2.2 | (with_reducible refine Kd.C_alloc ?_ _) | (with_reducible refine Kd.C_drewN ?_ _) | (with_reducible refine Kd.C_drew ?_))) : p := h
theorem z75 {p : Prop} (h : p := by repeat (first | exact (Kd.R_reads' HO284.out).2.2 | (with_reducible refine Kd.C_alloc ?_ _) | (with_reducible refine Kd.C_drewN ?_ _) | (with_reducible refine Kd.C_drew ?_))) : p := h
theorem z76 {p : Prop} (h : p := by repeat (first | exact (Kd.C_below HR0_2.out HB.out) | (with_reducible refine Kd.C_alloc ?_ _) | (with_reducible refine Kd.C_drewN ?_ _) | (with_reducible refine Kd.C_drew ?_))) : p := h
theorem z77 {p : Prop} (h : p := by repeat (first | exact (Kd.C_below HR0_3.out HB.out) | (with_reducible refine Kd.C_alloc ?_ _) | (with_reducible refine Kd.C_drewN ?_ _) | (with_reducible refine Kd.C_drew ?_))) : p := h



def errW : Option Int → Value
  | none => .nilIface
  | some c => .iface 48 (.int .i64 c)
theorem errW_none : errW none = .nilIface := rfl
theorem errW_some (c : Int) : errW (some c) = .iface 48 (.int .i64 c) := rfl

theorem info3 : (Tryz.prog.info? 3).map (fun i => (i.zero, i.size, i.bytes)) = some (some (.int .i64 0), 1, 8) := by kernel_rfl
theorem info5 : (Tryz.prog.info? 5).map (fun i => (i.zero, i.size, i.bytes)) = some (some (.int .u8 0), 1, 1) := by kernel_rfl
theorem info9 : (Tryz.prog.info? 9).map (fun i => (i.zero, i.size, i.bytes)) = some (some (.string ⟨#[]⟩), 1, 16) := by kernel_rfl
-- the values' own types
/-! ### page_Page_keyed: function 26 -/
def page_Page_keyed.l0 : Nat → Int → List ByteArray → Int → Int → Int → List ByteArray → List ByteArray → List Int → Option (Bool)
 | 0, _, _, _, _, _, _, _, _ => none
 | k + 1, x1, x8, x9, x10, x102000, x102001, x102002, x102003 => if x10 < x9 then (if 0 ≤ x10 then (if x10 < (x8.length : Int) then (if x10 < x1 then (if (rdOf ByteArray.empty x8 x10).toList = ([] : List UInt8) then (if x10 ≥ x1 then (some false) else (if x10 > 0 then (if 0 ≤ (wrap64 (x10 - 1)) then (if (wrap64 (x10 - 1)) < (x102001.length : Int) then (if ((Op.bytesLess ((rdOf ByteArray.empty x102001 (wrap64 (x10 - 1))).toList) ((rdOf ByteArray.empty x8 x10).toList)) = true) then (page_Page_keyed.l0 k x1 x8 x9 (wrap64 (x10 + 1)) x102000 x102001 x102002 x102003) else (some false)) else (none)) else (none)) else (page_Page_keyed.l0 k x1 x8 x9 (wrap64 (x10 + 1)) x102000 x102001 x102002 x102003))) else (some false)) else (if x10 ≥ x1 then (if (rdOf ByteArray.empty x8 x10).toList = ([] : List UInt8) then (some false) else (if ((rdOf ByteArray.empty x8 x10).size : Int) > 16 then (some false) else (if x10 > 0 then (if 0 ≤ (wrap64 (x10 - 1)) then (if (wrap64 (x10 - 1)) < (x102001.length : Int) then (if ((Op.bytesLess ((rdOf ByteArray.empty x102001 (wrap64 (x10 - 1))).toList) ((rdOf ByteArray.empty x8 x10).toList)) = true) then (page_Page_keyed.l0 k x1 x8 x9 (wrap64 (x10 + 1)) x102000 x102001 x102002 x102003) else (some false)) else (none)) else (none)) else (page_Page_keyed.l0 k x1 x8 x9 (wrap64 (x10 + 1)) x102000 x102001 x102002 x102003)))) else (if x10 > 0 then (if 0 ≤ (wrap64 (x10 - 1)) then (if (wrap64 (x10 - 1)) < (x102001.length : Int) then (if ((Op.bytesLess ((rdOf ByteArray.empty x102001 (wrap64 (x10 - 1))).toList) ((rdOf ByteArray.empty x8 x10).toList)) = true) then (page_Page_keyed.l0 k x1 x8 x9 (wrap64 (x10 + 1)) x102000 x102001 x102002 x102003) else (some false)) else (none)) else (none)) else (page_Page_keyed.l0 k x1 x8 x9 (wrap64 (x10 + 1)) x102000 x102001 x102002 x102003)))) else (none)) else (none)) else (some true)
def page_Page_keyed.f (k : Nat) (a0_0 : Int) (l0_1 : List ByteArray) (l0_2 : List ByteArray) (l0_3 : List Int) (a1 : Int) : Option (Bool) := page_Page_keyed.l0 k a1 l0_1 (l0_1.length : Int) 0 a0_0 l0_1 l0_2 l0_3
set_option maxHeartbeats 8000000 in
set_option maxRecDepth 100000 in
theorem page_Page_keyed.calls (k : Nat) (a0_0 : Int) (A0_1 : Option Addr) (c0_1 : Nat) (l0_1 : List ByteArray) (A0_2 : Option Addr) (c0_2 : Nat) (l0_2 : List ByteArray) (A0_3 : Option Addr) (c0_3 : Nat) (l0_3 : List Int) (a1 : Int) (r : Bool) (w : World) (hr0_1 : Kd.C Kd.string w A0_1 l0_1.length l0_1) (hc0_1 : l0_1.length ≤ c0_1) (hr0_2 : Kd.C Kd.string w A0_2 l0_2.length l0_2) (hc0_2 : l0_2.length ≤ c0_2) (hr0_3 : Kd.C (Kd.int .i64) w A0_3 l0_3.length l0_3) (hc0_3 : l0_3.length ≤ c0_3) (h : page_Page_keyed.f k a0_0 l0_1 l0_2 l0_3 a1 = some r) :
  Calls Tryz.prog 26 #[.agg #[.int .i64 a0_0, .slice A0_1 l0_1.length c0_1, .slice A0_2 l0_2.length c0_2, .slice A0_3 l0_3.length c0_3], .int .i64 a1] w fun e w' => e = .returned (.bool r) ∧ Below w.heap.size w w' := by
 have hu28 := Tryz.underlying28; have HR0_1 := Aside0.mk hr0_1; have HC0_1 := Aside0.mk hc0_1; clear hr0_1 hc0_1; have HR0_2 := Aside0.mk hr0_2; have HC0_2 := Aside0.mk hc0_2; clear hr0_2 hc0_2; have HR0_3 := Aside0.mk hr0_3; have HC0_3 := Aside0.mk hc0_3; clear hr0_3 hc0_3; have HB := Aside0.mk (Below.refl w.heap.size w); have H : (page_Page_keyed.l0 k a1 l0_1 (l0_1.length : Int) 0 a0_0 l0_1 l0_2 l0_3) = some r := h; clear h; have H' := Aside0.mk H; clear H; go_enter Tryz.func26, Tryz.ntmps26
 go_wp2_with (first | ((with_reducible refine gate_dst (N := 2) rfl ?_); (try (refine gate_guard (by rfl) ?_; dsimp only)); refine box_event ?hg (N := 2) ?hd (cs := #[.int .i64 a0_0, .slice A0_1 l0_1.length c0_1, .slice A0_2 l0_2.length c0_2, .slice A0_3 l0_3.length c0_3]) (t := 28) ?hr ?_; (case hd => rfl); (case hg => rfl); (case hr => exact z68); intro gb101 hg w3 hbox hb; have n0_ := Aside0.mk (below_step z8 hb); have n1_ := Aside0.mk (hbox); have n2_ := Aside0.mk ((by rw [hg]; exact (below_size z8) : w.heap.size ≤ gb101)); have n3_ := Aside0.mk ((by rw [hg]; exact (below_size z8) : w.heap.size ≤ gb101)); clear HB; have HB := n0_; have BK101 := n1_; have GW101 := n2_; have GE101 := n3_; clear n0_ n1_ n2_ n3_; clear hb hbox hg; have hcz4_0 : w3.cell? ⟨gb101, 0, none⟩ = some (.int .i64 a0_0) := (blk_cell BK101.out 0).trans rfl; have hcz4_1 : w3.cell? ⟨gb101, 1, none⟩ = some (.slice A0_1 l0_1.length c0_1) := (blk_cell BK101.out 1).trans rfl; have hcz4_2 : w3.cell? ⟨gb101, 2, none⟩ = some (.slice A0_2 l0_2.length c0_2) := (blk_cell BK101.out 2).trans rfl; have hcz4_3 : w3.cell? ⟨gb101, 3, none⟩ = some (.slice A0_3 l0_3.length c0_3) := (blk_cell BK101.out 3).trans rfl; have hfz4_0 := blk_frozen BK101.out 0; have hfz4_1 := blk_frozen BK101.out 1; have hfz4_2 := blk_frozen BK101.out 2; have hfz4_3 := blk_frozen BK101.out 3))
 go_loopg [10] k (fun kq v10 w' => ∃ (x10_1 : Int), v10 = .int .i64 x10_1 ∧ Aside0 (page_Page_keyed.l0 kq a1 l0_1 (l0_1.length : Int) x10_1 a0_0 l0_1 l0_2 l0_3 = some r) ∧ Aside0 (kq ≤ k) ∧ Aside0 (w'.heap[gb101]? = some (.cells #[.int .i64 a0_0, (.slice A0_1 l0_1.length c0_1), (.slice A0_2 l0_2.length c0_2), (.slice A0_3 l0_3.length c0_3)] 28 (0, 0))) ∧ Aside0 (Below w.heap.size w w'))
 case atStart => exact ⟨(0), z13, H', ⟨Nat.le_refl _⟩, ⟨(z3 BK101.out)⟩, ⟨z24⟩⟩
 case round =>
  clear H'
  (try clear hcz4_0)
  (try clear hcz4_1)
  (try clear hcz4_2)
  (try clear hcz4_3)
  (try clear hfz4_0)
  (try clear hfz4_1)
  (try clear hfz4_2)
  (try clear hfz4_3)
  obtain ⟨x10_1, rfl, HA, HK1, BK101, HB⟩ := hrel; cases gk with
  | zero => exact absurd HA.out (by simp [page_Page_keyed.l0])
  | succ k1 =>
   have H := HA.out; clear HA; simp only [page_Page_keyed.l0] at H
   by_cases c5 : x10_1 < (l0_1.length : Int)
   ·rw [if_pos c5] at H; have c5b0 : decide (x10_1 < (l0_1.length : Int)) = true := decide_eq_true c5; clear c5
    by_cases c6 : 0 ≤ x10_1
    ·rw [if_pos c6] at H; have c6b0 : decide (0 ≤ x10_1) = true := decide_eq_true c6; clear c6
     by_cases c7 : x10_1 < (l0_1.length : Int)
     ·rw [if_pos c7] at H; have c7b0 : decide (x10_1 < (l0_1.length : Int)) = true := decide_eq_true c7; clear c7
      by_cases c8 : x10_1 < a1
      ·rw [if_pos c8] at H; have c8b0 : decide (x10_1 < a1) = true := decide_eq_true c8; clear c8
       by_cases c9 : (rdOf ByteArray.empty l0_1 x10_1).toList = ([] : List UInt8)
       ·rw [if_pos c9] at H; have c9b0 : ((rdOf ByteArray.empty l0_1 x10_1).toList == ([] : List UInt8)) = true := beq_iff_eq.mpr c9; have c9b1 : ((rdOf ByteArray.empty l0_1 x10_1).toList != ([] : List UInt8)) = false := bne_eq_false_iff_eq.mpr c9; clear c9
        by_cases c10 : x10_1 ≥ a1
        ·rw [if_pos c10] at H; have c10b0 : decide (a1 ≤ x10_1) = true := decide_eq_true c10; clear c10; obtain rfl := Option.some.inj H; have p102 : 0 ≤ (x10_1 : Int) := of_decide_eq_true z11; have q102 : x10_1 < (l0_1.length : Int) := of_decide_eq_true z11; obtain ⟨ad102, e102, hx102_0⟩ := Kd.at_string HR0_1.out x10_1 p102 q102; cases e102; replace hx102_0 := (HB.out.cell (World.block_lt_of_cell? w _ hx102_0)).trans hx102_0; replace p102 := eq_true p102; replace q102 := eq_true q102; go_wp2
         go_ret
         exact ⟨z12, z24⟩
        ·rw [if_neg c10] at H; have c10b0 : decide (a1 ≤ x10_1) = false := decide_eq_false c10; clear c10
         by_cases c11 : x10_1 > 0
         ·rw [if_pos c11] at H; have c11b0 : decide (0 < x10_1) = true := decide_eq_true c11; clear c11; obtain ⟨ji12, hji12⟩ : ∃ j_ : Int, (wrap64 (x10_1 - 1)) = j_ := ⟨_, rfl⟩
          replace H : (if 0 ≤ (ji12) then (if (ji12) < (l0_1.length : Int) then (if ((Op.bytesLess ((rdOf ByteArray.empty l0_1 (ji12)).toList) ((rdOf ByteArray.empty l0_1 x10_1).toList)) = true) then (page_Page_keyed.l0 k1 a1 l0_1 (l0_1.length : Int) (wrap64 (x10_1 + 1)) a0_0 l0_1 l0_2 l0_3) else (some false)) else (none)) else (none)) = some r := by first | (rw [hji12] at H; exact H) | (simp only [hji12] at H ⊢; exact H)
          have hji12w : (IntKind.i64.wrap (x10_1 - 1)) = ji12 := (i64_w _).trans hji12
          by_cases c13 : 0 ≤ (ji12)
          ·rw [if_pos c13] at H; have c13b0 : decide (0 ≤ (ji12)) = true := decide_eq_true c13; clear c13
           by_cases c14 : (ji12) < (l0_1.length : Int)
           ·rw [if_pos c14] at H; have c14b0 : decide ((ji12) < (l0_1.length : Int)) = true := decide_eq_true c14; clear c14
            by_cases c15 : ((Op.bytesLess ((rdOf ByteArray.empty l0_1 (ji12)).toList) ((rdOf ByteArray.empty l0_1 x10_1).toList)) = true)
            ·rw [if_pos c15] at H; have c15b0 : (Op.bytesLess ((rdOf ByteArray.empty l0_1 (ji12)).toList) ((rdOf ByteArray.empty l0_1 x10_1).toList)) = true := c15; clear c15; have H' := Aside0.mk H; clear H; have p102 : 0 ≤ (x10_1 : Int) := of_decide_eq_true z11; have q102 : x10_1 < (l0_1.length : Int) := of_decide_eq_true z11; obtain ⟨ad102, e102, hx102_0⟩ := Kd.at_string HR0_1.out x10_1 p102 q102; cases e102; replace hx102_0 := (HB.out.cell (World.block_lt_of_cell? w _ hx102_0)).trans hx102_0; replace p102 := eq_true p102; replace q102 := eq_true q102; have hcz16_0 : wr.cell? ⟨gb101, 0, none⟩ = some (.int .i64 a0_0) := (blk_cell BK101.out 0).trans rfl; have hcz16_1 : wr.cell? ⟨gb101, 1, none⟩ = some (.slice (some ad102) l0_1.length c0_1) := (blk_cell BK101.out 1).trans rfl; have hcz16_2 : wr.cell? ⟨gb101, 2, none⟩ = some (.slice A0_2 l0_2.length c0_2) := (blk_cell BK101.out 2).trans rfl; have hcz16_3 : wr.cell? ⟨gb101, 3, none⟩ = some (.slice A0_3 l0_3.length c0_3) := (blk_cell BK101.out 3).trans rfl; have hfz16_0 := blk_frozen BK101.out 0; have hfz16_1 := blk_frozen BK101.out 1; have hfz16_2 := blk_frozen BK101.out 2; have hfz16_3 := blk_frozen BK101.out 3; have p103 : 0 ≤ ((ji12) : Int) := of_decide_eq_true z11; have q103 : (ji12) < (l0_1.length : Int) := of_decide_eq_true z11; obtain ⟨ad103, e103, hx103_0⟩ := Kd.at_string HR0_1.out (ji12) p103 q103; obtain rfl : ad102 = ad103 := (by injection e103); replace hx103_0 := (HB.out.cell (World.block_lt_of_cell? w _ hx103_0)).trans hx103_0; replace p103 := eq_true p103; replace q103 := eq_true q103; go_wp2
             go_roundg k1
             case measure => have := HK1.out; omega
             case rel => exact ⟨(wrap64 (x10_1 + 1)), z13, H', ⟨by have := HK1.out; omega⟩, ⟨(z3 BK101.out)⟩, ⟨z24⟩⟩
            ·rw [if_neg c15] at H; have c15b0 : (Op.bytesLess ((rdOf ByteArray.empty l0_1 (ji12)).toList) ((rdOf ByteArray.empty l0_1 x10_1).toList)) = false := by simpa using c15
             clear c15; obtain rfl := Option.some.inj H; have p102 : 0 ≤ (x10_1 : Int) := of_decide_eq_true z11; have q102 : x10_1 < (l0_1.length : Int) := of_decide_eq_true z11; obtain ⟨ad102, e102, hx102_0⟩ := Kd.at_string HR0_1.out x10_1 p102 q102; cases e102; replace hx102_0 := (HB.out.cell (World.block_lt_of_cell? w _ hx102_0)).trans hx102_0; replace p102 := eq_true p102; replace q102 := eq_true q102; have hcz17_0 : wr.cell? ⟨gb101, 0, none⟩ = some (.int .i64 a0_0) := (blk_cell BK101.out 0).trans rfl; have hcz17_1 : wr.cell? ⟨gb101, 1, none⟩ = some (.slice (some ad102) l0_1.length c0_1) := (blk_cell BK101.out 1).trans rfl; have hcz17_2 : wr.cell? ⟨gb101, 2, none⟩ = some (.slice A0_2 l0_2.length c0_2) := (blk_cell BK101.out 2).trans rfl; have hcz17_3 : wr.cell? ⟨gb101, 3, none⟩ = some (.slice A0_3 l0_3.length c0_3) := (blk_cell BK101.out 3).trans rfl; have hfz17_0 := blk_frozen BK101.out 0; have hfz17_1 := blk_frozen BK101.out 1; have hfz17_2 := blk_frozen BK101.out 2; have hfz17_3 := blk_frozen BK101.out 3; have p103 : 0 ≤ ((ji12) : Int) := of_decide_eq_true z11; have q103 : (ji12) < (l0_1.length : Int) := of_decide_eq_true z11; obtain ⟨ad103, e103, hx103_0⟩ := Kd.at_string HR0_1.out (ji12) p103 q103; obtain rfl : ad102 = ad103 := (by injection e103); replace hx103_0 := (HB.out.cell (World.block_lt_of_cell? w _ hx103_0)).trans hx103_0; replace p103 := eq_true p103; replace q103 := eq_true q103; go_wp2
             go_ret
             exact ⟨by first | rfl | (simp [errW_none, errW_some] <;> rfl) | (simp only [← hji12]; first | rfl | (simp [errW_none, errW_some] <;> rfl)) | (simp [*, errW_none, errW_some] <;> rfl), z24⟩
           ·rw [if_neg c14] at H; exact absurd H (by simp)
          ·rw [if_neg c13] at H; exact absurd H (by simp)
         ·rw [if_neg c11] at H; have c11b0 : decide (0 < x10_1) = false := decide_eq_false c11; clear c11; have H' := Aside0.mk H; clear H; have p102 : 0 ≤ (x10_1 : Int) := of_decide_eq_true z11; have q102 : x10_1 < (l0_1.length : Int) := of_decide_eq_true z11; obtain ⟨ad102, e102, hx102_0⟩ := Kd.at_string HR0_1.out x10_1 p102 q102; cases e102; replace hx102_0 := (HB.out.cell (World.block_lt_of_cell? w _ hx102_0)).trans hx102_0; replace p102 := eq_true p102; replace q102 := eq_true q102; go_wp2
          go_roundg k1
          case measure => have := HK1.out; omega
          case rel => exact ⟨(wrap64 (x10_1 + 1)), z13, H', ⟨by have := HK1.out; omega⟩, ⟨(z3 BK101.out)⟩, ⟨z24⟩⟩
       ·rw [if_neg c9] at H; have c9b0 : ((rdOf ByteArray.empty l0_1 x10_1).toList == ([] : List UInt8)) = false := beq_eq_false_iff_ne.mpr c9; have c9b1 : ((rdOf ByteArray.empty l0_1 x10_1).toList != ([] : List UInt8)) = true := bne_iff_ne.mpr c9; obtain rfl := Option.some.inj H; have p102 : 0 ≤ (x10_1 : Int) := of_decide_eq_true z11; have q102 : x10_1 < (l0_1.length : Int) := of_decide_eq_true z11; obtain ⟨ad102, e102, hx102_0⟩ := Kd.at_string HR0_1.out x10_1 p102 q102; cases e102; replace hx102_0 := (HB.out.cell (World.block_lt_of_cell? w _ hx102_0)).trans hx102_0; replace p102 := eq_true p102; replace q102 := eq_true q102; go_wp2
        go_ret
        exact ⟨z12, z24⟩
      ·rw [if_neg c8] at H; have c8b0 : decide (x10_1 < a1) = false := decide_eq_false c8; clear c8
       by_cases c18 : x10_1 ≥ a1
       ·rw [if_pos c18] at H; have c18b0 : decide (a1 ≤ x10_1) = true := decide_eq_true c18; clear c18
        by_cases c19 : (rdOf ByteArray.empty l0_1 x10_1).toList = ([] : List UInt8)
        ·rw [if_pos c19] at H; have c19b0 : ((rdOf ByteArray.empty l0_1 x10_1).toList == ([] : List UInt8)) = true := beq_iff_eq.mpr c19; have c19b1 : ((rdOf ByteArray.empty l0_1 x10_1).toList != ([] : List UInt8)) = false := bne_eq_false_iff_eq.mpr c19; clear c19; obtain rfl := Option.some.inj H; have p102 : 0 ≤ (x10_1 : Int) := of_decide_eq_true z11; have q102 : x10_1 < (l0_1.length : Int) := of_decide_eq_true z11; obtain ⟨ad102, e102, hx102_0⟩ := Kd.at_string HR0_1.out x10_1 p102 q102; cases e102; replace hx102_0 := (HB.out.cell (World.block_lt_of_cell? w _ hx102_0)).trans hx102_0; replace p102 := eq_true p102; replace q102 := eq_true q102; go_wp2
         go_ret
         exact ⟨z12, z24⟩
        ·rw [if_neg c19] at H; have c19b0 : ((rdOf ByteArray.empty l0_1 x10_1).toList == ([] : List UInt8)) = false := beq_eq_false_iff_ne.mpr c19; have c19b1 : ((rdOf ByteArray.empty l0_1 x10_1).toList != ([] : List UInt8)) = true := bne_iff_ne.mpr c19
         by_cases c20 : ((rdOf ByteArray.empty l0_1 x10_1).size : Int) > 16
         ·rw [if_pos c20] at H; have c20b0 : decide (16 < ((rdOf ByteArray.empty l0_1 x10_1).size : Int)) = true := decide_eq_true c20; have c20b1 : decide (16 < (rdOf ByteArray.empty l0_1 x10_1).size) = true := decide_eq_true (by omega); clear c20; obtain rfl := Option.some.inj H; have p102 : 0 ≤ (x10_1 : Int) := of_decide_eq_true z11; have q102 : x10_1 < (l0_1.length : Int) := of_decide_eq_true z11; obtain ⟨ad102, e102, hx102_0⟩ := Kd.at_string HR0_1.out x10_1 p102 q102; cases e102; replace hx102_0 := (HB.out.cell (World.block_lt_of_cell? w _ hx102_0)).trans hx102_0; replace p102 := eq_true p102; replace q102 := eq_true q102; go_wp2
          go_ret
          exact ⟨z12, z24⟩
         ·rw [if_neg c20] at H; have c20b0 : decide (16 < ((rdOf ByteArray.empty l0_1 x10_1).size : Int)) = false := decide_eq_false c20; have c20b1 : decide (16 < (rdOf ByteArray.empty l0_1 x10_1).size) = false := decide_eq_false (by omega); clear c20
          by_cases c21 : x10_1 > 0
          ·rw [if_pos c21] at H; have c21b0 : decide (0 < x10_1) = true := decide_eq_true c21; clear c21; obtain ⟨ji22, hji22⟩ : ∃ j_ : Int, (wrap64 (x10_1 - 1)) = j_ := ⟨_, rfl⟩
           replace H : (if 0 ≤ (ji22) then (if (ji22) < (l0_1.length : Int) then (if ((Op.bytesLess ((rdOf ByteArray.empty l0_1 (ji22)).toList) ((rdOf ByteArray.empty l0_1 x10_1).toList)) = true) then (page_Page_keyed.l0 k1 a1 l0_1 (l0_1.length : Int) (wrap64 (x10_1 + 1)) a0_0 l0_1 l0_2 l0_3) else (some false)) else (none)) else (none)) = some r := by first | (rw [hji22] at H; exact H) | (simp only [hji22] at H ⊢; exact H)
           have hji22w : (IntKind.i64.wrap (x10_1 - 1)) = ji22 := (i64_w _).trans hji22
           by_cases c23 : 0 ≤ (ji22)
           ·rw [if_pos c23] at H; have c23b0 : decide (0 ≤ (ji22)) = true := decide_eq_true c23; clear c23
            by_cases c24 : (ji22) < (l0_1.length : Int)
            ·rw [if_pos c24] at H; have c24b0 : decide ((ji22) < (l0_1.length : Int)) = true := decide_eq_true c24; clear c24
             by_cases c25 : ((Op.bytesLess ((rdOf ByteArray.empty l0_1 (ji22)).toList) ((rdOf ByteArray.empty l0_1 x10_1).toList)) = true)
             ·rw [if_pos c25] at H; have c25b0 : (Op.bytesLess ((rdOf ByteArray.empty l0_1 (ji22)).toList) ((rdOf ByteArray.empty l0_1 x10_1).toList)) = true := c25; clear c25; have H' := Aside0.mk H; clear H; have p102 : 0 ≤ (x10_1 : Int) := of_decide_eq_true z11; have q102 : x10_1 < (l0_1.length : Int) := of_decide_eq_true z11; obtain ⟨ad102, e102, hx102_0⟩ := Kd.at_string HR0_1.out x10_1 p102 q102; cases e102; replace hx102_0 := (HB.out.cell (World.block_lt_of_cell? w _ hx102_0)).trans hx102_0; replace p102 := eq_true p102; replace q102 := eq_true q102; have hcz26_0 : wr.cell? ⟨gb101, 0, none⟩ = some (.int .i64 a0_0) := (blk_cell BK101.out 0).trans rfl; have hcz26_1 : wr.cell? ⟨gb101, 1, none⟩ = some (.slice (some ad102) l0_1.length c0_1) := (blk_cell BK101.out 1).trans rfl; have hcz26_2 : wr.cell? ⟨gb101, 2, none⟩ = some (.slice A0_2 l0_2.length c0_2) := (blk_cell BK101.out 2).trans rfl; have hcz26_3 : wr.cell? ⟨gb101, 3, none⟩ = some (.slice A0_3 l0_3.length c0_3) := (blk_cell BK101.out 3).trans rfl; have hfz26_0 := blk_frozen BK101.out 0; have hfz26_1 := blk_frozen BK101.out 1; have hfz26_2 := blk_frozen BK101.out 2; have hfz26_3 := blk_frozen BK101.out 3; have p104 : 0 ≤ ((ji22) : Int) := of_decide_eq_true z11; have q104 : (ji22) < (l0_1.length : Int) := of_decide_eq_true z11; obtain ⟨ad104, e104, hx104_0⟩ := Kd.at_string HR0_1.out (ji22) p104 q104; obtain rfl : ad102 = ad104 := (by injection e104); replace hx104_0 := (HB.out.cell (World.block_lt_of_cell? w _ hx104_0)).trans hx104_0; replace p104 := eq_true p104; replace q104 := eq_true q104; go_wp2
              go_roundg k1
              case measure => have := HK1.out; omega
              case rel => exact ⟨(wrap64 (x10_1 + 1)), z13, H', ⟨by have := HK1.out; omega⟩, ⟨(z3 BK101.out)⟩, ⟨z24⟩⟩
             ·rw [if_neg c25] at H; have c25b0 : (Op.bytesLess ((rdOf ByteArray.empty l0_1 (ji22)).toList) ((rdOf ByteArray.empty l0_1 x10_1).toList)) = false := by simpa using c25
              clear c25; obtain rfl := Option.some.inj H; have p102 : 0 ≤ (x10_1 : Int) := of_decide_eq_true z11; have q102 : x10_1 < (l0_1.length : Int) := of_decide_eq_true z11; obtain ⟨ad102, e102, hx102_0⟩ := Kd.at_string HR0_1.out x10_1 p102 q102; cases e102; replace hx102_0 := (HB.out.cell (World.block_lt_of_cell? w _ hx102_0)).trans hx102_0; replace p102 := eq_true p102; replace q102 := eq_true q102; have hcz27_0 : wr.cell? ⟨gb101, 0, none⟩ = some (.int .i64 a0_0) := (blk_cell BK101.out 0).trans rfl; have hcz27_1 : wr.cell? ⟨gb101, 1, none⟩ = some (.slice (some ad102) l0_1.length c0_1) := (blk_cell BK101.out 1).trans rfl; have hcz27_2 : wr.cell? ⟨gb101, 2, none⟩ = some (.slice A0_2 l0_2.length c0_2) := (blk_cell BK101.out 2).trans rfl; have hcz27_3 : wr.cell? ⟨gb101, 3, none⟩ = some (.slice A0_3 l0_3.length c0_3) := (blk_cell BK101.out 3).trans rfl; have hfz27_0 := blk_frozen BK101.out 0; have hfz27_1 := blk_frozen BK101.out 1; have hfz27_2 := blk_frozen BK101.out 2; have hfz27_3 := blk_frozen BK101.out 3; have p104 : 0 ≤ ((ji22) : Int) := of_decide_eq_true z11; have q104 : (ji22) < (l0_1.length : Int) := of_decide_eq_true z11; obtain ⟨ad104, e104, hx104_0⟩ := Kd.at_string HR0_1.out (ji22) p104 q104; obtain rfl : ad102 = ad104 := (by injection e104); replace hx104_0 := (HB.out.cell (World.block_lt_of_cell? w _ hx104_0)).trans hx104_0; replace p104 := eq_true p104; replace q104 := eq_true q104; go_wp2
              go_ret
              exact ⟨by first | rfl | (simp [errW_none, errW_some] <;> rfl) | (simp only [← hji22]; first | rfl | (simp [errW_none, errW_some] <;> rfl)) | (simp [*, errW_none, errW_some] <;> rfl), z24⟩
            ·rw [if_neg c24] at H; exact absurd H (by simp)
           ·rw [if_neg c23] at H; exact absurd H (by simp)
          ·rw [if_neg c21] at H; have c21b0 : decide (0 < x10_1) = false := decide_eq_false c21; clear c21; have H' := Aside0.mk H; clear H; have p102 : 0 ≤ (x10_1 : Int) := of_decide_eq_true z11; have q102 : x10_1 < (l0_1.length : Int) := of_decide_eq_true z11; obtain ⟨ad102, e102, hx102_0⟩ := Kd.at_string HR0_1.out x10_1 p102 q102; cases e102; replace hx102_0 := (HB.out.cell (World.block_lt_of_cell? w _ hx102_0)).trans hx102_0; replace p102 := eq_true p102; replace q102 := eq_true q102; go_wp2
           go_roundg k1
           case measure => have := HK1.out; omega
           case rel => exact ⟨(wrap64 (x10_1 + 1)), z13, H', ⟨by have := HK1.out; omega⟩, ⟨(z3 BK101.out)⟩, ⟨z24⟩⟩
       ·rw [if_neg c18] at H; have c18b0 : decide (a1 ≤ x10_1) = false := decide_eq_false c18; clear c18
        by_cases c28 : x10_1 > 0
        ·rw [if_pos c28] at H; have c28b0 : decide (0 < x10_1) = true := decide_eq_true c28; clear c28; obtain ⟨ji29, hji29⟩ : ∃ j_ : Int, (wrap64 (x10_1 - 1)) = j_ := ⟨_, rfl⟩
         replace H : (if 0 ≤ (ji29) then (if (ji29) < (l0_1.length : Int) then (if ((Op.bytesLess ((rdOf ByteArray.empty l0_1 (ji29)).toList) ((rdOf ByteArray.empty l0_1 x10_1).toList)) = true) then (page_Page_keyed.l0 k1 a1 l0_1 (l0_1.length : Int) (wrap64 (x10_1 + 1)) a0_0 l0_1 l0_2 l0_3) else (some false)) else (none)) else (none)) = some r := by first | (rw [hji29] at H; exact H) | (simp only [hji29] at H ⊢; exact H)
         have hji29w : (IntKind.i64.wrap (x10_1 - 1)) = ji29 := (i64_w _).trans hji29
         by_cases c30 : 0 ≤ (ji29)
         ·rw [if_pos c30] at H; have c30b0 : decide (0 ≤ (ji29)) = true := decide_eq_true c30; clear c30
          by_cases c31 : (ji29) < (l0_1.length : Int)
          ·rw [if_pos c31] at H; have c31b0 : decide ((ji29) < (l0_1.length : Int)) = true := decide_eq_true c31; clear c31
           by_cases c32 : ((Op.bytesLess ((rdOf ByteArray.empty l0_1 (ji29)).toList) ((rdOf ByteArray.empty l0_1 x10_1).toList)) = true)
           ·rw [if_pos c32] at H; have c32b0 : (Op.bytesLess ((rdOf ByteArray.empty l0_1 (ji29)).toList) ((rdOf ByteArray.empty l0_1 x10_1).toList)) = true := c32; clear c32; have H' := Aside0.mk H; clear H; have p102 : 0 ≤ (x10_1 : Int) := of_decide_eq_true z11; have q102 : x10_1 < (l0_1.length : Int) := of_decide_eq_true z11; obtain ⟨ad102, e102, hx102_0⟩ := Kd.at_string HR0_1.out x10_1 p102 q102; cases e102; replace hx102_0 := (HB.out.cell (World.block_lt_of_cell? w _ hx102_0)).trans hx102_0; replace p102 := eq_true p102; replace q102 := eq_true q102; have hcz33_0 : wr.cell? ⟨gb101, 0, none⟩ = some (.int .i64 a0_0) := (blk_cell BK101.out 0).trans rfl; have hcz33_1 : wr.cell? ⟨gb101, 1, none⟩ = some (.slice (some ad102) l0_1.length c0_1) := (blk_cell BK101.out 1).trans rfl; have hcz33_2 : wr.cell? ⟨gb101, 2, none⟩ = some (.slice A0_2 l0_2.length c0_2) := (blk_cell BK101.out 2).trans rfl; have hcz33_3 : wr.cell? ⟨gb101, 3, none⟩ = some (.slice A0_3 l0_3.length c0_3) := (blk_cell BK101.out 3).trans rfl; have hfz33_0 := blk_frozen BK101.out 0; have hfz33_1 := blk_frozen BK101.out 1; have hfz33_2 := blk_frozen BK101.out 2; have hfz33_3 := blk_frozen BK101.out 3; have p105 : 0 ≤ ((ji29) : Int) := of_decide_eq_true z11; have q105 : (ji29) < (l0_1.length : Int) := of_decide_eq_true z11; obtain ⟨ad105, e105, hx105_0⟩ := Kd.at_string HR0_1.out (ji29) p105 q105; obtain rfl : ad102 = ad105 := (by injection e105); replace hx105_0 := (HB.out.cell (World.block_lt_of_cell? w _ hx105_0)).trans hx105_0; replace p105 := eq_true p105; replace q105 := eq_true q105; go_wp2
            go_roundg k1
            case measure => have := HK1.out; omega
            case rel => exact ⟨(wrap64 (x10_1 + 1)), z13, H', ⟨by have := HK1.out; omega⟩, ⟨(z3 BK101.out)⟩, ⟨z24⟩⟩
           ·rw [if_neg c32] at H; have c32b0 : (Op.bytesLess ((rdOf ByteArray.empty l0_1 (ji29)).toList) ((rdOf ByteArray.empty l0_1 x10_1).toList)) = false := by simpa using c32
            clear c32; obtain rfl := Option.some.inj H; have p102 : 0 ≤ (x10_1 : Int) := of_decide_eq_true z11; have q102 : x10_1 < (l0_1.length : Int) := of_decide_eq_true z11; obtain ⟨ad102, e102, hx102_0⟩ := Kd.at_string HR0_1.out x10_1 p102 q102; cases e102; replace hx102_0 := (HB.out.cell (World.block_lt_of_cell? w _ hx102_0)).trans hx102_0; replace p102 := eq_true p102; replace q102 := eq_true q102; have hcz34_0 : wr.cell? ⟨gb101, 0, none⟩ = some (.int .i64 a0_0) := (blk_cell BK101.out 0).trans rfl; have hcz34_1 : wr.cell? ⟨gb101, 1, none⟩ = some (.slice (some ad102) l0_1.length c0_1) := (blk_cell BK101.out 1).trans rfl; have hcz34_2 : wr.cell? ⟨gb101, 2, none⟩ = some (.slice A0_2 l0_2.length c0_2) := (blk_cell BK101.out 2).trans rfl; have hcz34_3 : wr.cell? ⟨gb101, 3, none⟩ = some (.slice A0_3 l0_3.length c0_3) := (blk_cell BK101.out 3).trans rfl; have hfz34_0 := blk_frozen BK101.out 0; have hfz34_1 := blk_frozen BK101.out 1; have hfz34_2 := blk_frozen BK101.out 2; have hfz34_3 := blk_frozen BK101.out 3; have p105 : 0 ≤ ((ji29) : Int) := of_decide_eq_true z11; have q105 : (ji29) < (l0_1.length : Int) := of_decide_eq_true z11; obtain ⟨ad105, e105, hx105_0⟩ := Kd.at_string HR0_1.out (ji29) p105 q105; obtain rfl : ad102 = ad105 := (by injection e105); replace hx105_0 := (HB.out.cell (World.block_lt_of_cell? w _ hx105_0)).trans hx105_0; replace p105 := eq_true p105; replace q105 := eq_true q105; go_wp2
            go_ret
            exact ⟨by first | rfl | (simp [errW_none, errW_some] <;> rfl) | (simp only [← hji29]; first | rfl | (simp [errW_none, errW_some] <;> rfl)) | (simp [*, errW_none, errW_some] <;> rfl), z24⟩
          ·rw [if_neg c31] at H; exact absurd H (by simp)
         ·rw [if_neg c30] at H; exact absurd H (by simp)
        ·rw [if_neg c28] at H; have c28b0 : decide (0 < x10_1) = false := decide_eq_false c28; clear c28; have H' := Aside0.mk H; clear H; have p102 : 0 ≤ (x10_1 : Int) := of_decide_eq_true z11; have q102 : x10_1 < (l0_1.length : Int) := of_decide_eq_true z11; obtain ⟨ad102, e102, hx102_0⟩ := Kd.at_string HR0_1.out x10_1 p102 q102; cases e102; replace hx102_0 := (HB.out.cell (World.block_lt_of_cell? w _ hx102_0)).trans hx102_0; replace p102 := eq_true p102; replace q102 := eq_true q102; go_wp2
         go_roundg k1
         case measure => have := HK1.out; omega
         case rel => exact ⟨(wrap64 (x10_1 + 1)), z13, H', ⟨by have := HK1.out; omega⟩, ⟨(z3 BK101.out)⟩, ⟨z24⟩⟩
     ·rw [if_neg c7] at H; exact absurd H (by simp)
    ·rw [if_neg c6] at H; exact absurd H (by simp)
   ·rw [if_neg c5] at H; have c5b0 : decide (x10_1 < (l0_1.length : Int)) = false := decide_eq_false c5; clear c5; obtain rfl := Option.some.inj H; go_wp2
    go_ret
    exact ⟨z12, z24⟩
-- @GIVEN lib_right
/-- Is a page's text at i as it should be? -/
def keyOk (lv : Int) (keys : List ByteArray) (i : Nat) : Bool :=
  (decide (0 < lv ∧ i = 0) == decide ((rdOf ByteArray.empty keys (i : Int)).toList = [])) && (decide ((rdOf ByteArray.empty keys (i : Int)).size ≤ 16) && (decide (i = 0) || Op.bytesLess (rdOf ByteArray.empty keys ((i - 1 : Nat) : Int)).toList (rdOf ByteArray.empty keys (i : Int)).toList))
/-- .. and its value, its page's number? -/
def sideOk (lv : Int) (vals : List ByteArray) (kids : List Int) (i : Nat) : Bool :=
  if lv = 0 then decide ((rdOf ByteArray.empty vals (i : Int)).size ≤ 24) else decide (1 ≤ rd kids (i : Int) ∧ rd kids (i : Int) ≤ 1023)
def rowOk (lv : Int) (keys vals : List ByteArray) (kids : List Int) (i : Nat) : Bool := keyOk lv keys i && sideOk lv vals kids i
/-- May there be such a page? -/
def rightP (lv : Int) (keys vals : List ByteArray) (kids : List Int) : Bool :=
  decide ((lv = 0 ∧ keys.length ≤ 11 ∧ vals.length = keys.length ∧ kids.length = 0) ∨ (0 < lv ∧ lv ≤ 5 ∧ 2 ≤ keys.length ∧ keys.length ≤ 25 ∧ kids.length = keys.length ∧ vals.length = 0)) && (List.range' 0 keys.length).all (rowOk lv keys vals kids)
theorem rightP_bad {lv : Int} {keys vals : List ByteArray} {kids : List Int} (h : ¬ ((lv = 0 ∧ keys.length ≤ 11 ∧ vals.length = keys.length ∧ kids.length = 0) ∨ (0 < lv ∧ lv ≤ 5 ∧ 2 ≤ keys.length ∧ keys.length ≤ 25 ∧ kids.length = keys.length ∧ vals.length = 0))) : rightP lv keys vals kids = false := by
  unfold rightP; rw [decide_eq_false h, Bool.false_and]
theorem rightP_ok {lv : Int} {keys vals : List ByteArray} {kids : List Int} (h : (lv = 0 ∧ keys.length ≤ 11 ∧ vals.length = keys.length ∧ kids.length = 0) ∨ (0 < lv ∧ lv ≤ 5 ∧ 2 ≤ keys.length ∧ keys.length ≤ 25 ∧ kids.length = keys.length ∧ vals.length = 0)) : rightP lv keys vals kids = (List.range' 0 keys.length).all (rowOk lv keys vals kids) := by
  unfold rightP; rw [decide_eq_true h, Bool.true_and]
section
variable {lv : Int} {keys vals : List ByteArray} {kids : List Int} {i : Nat}
theorem rowOk_key (h : keyOk lv keys i = false) : rowOk lv keys vals kids i = false := by unfold rowOk; rw [h, Bool.false_and]
theorem rowOk_side (h : sideOk lv vals kids i = false) : rowOk lv keys vals kids i = false := by unfold rowOk; rw [h, Bool.and_false]
theorem rowOk_of (h : keyOk lv keys i = true) (h2 : sideOk lv vals kids i = true) : rowOk lv keys vals kids i = true := by unfold rowOk; rw [h, h2]; rfl
theorem sideOk_leaf (h0 : lv = 0) (h : (rdOf ByteArray.empty vals (i : Int)).size ≤ 24) : sideOk lv vals kids i = true := by unfold sideOk; rw [if_pos h0]; exact decide_eq_true h
theorem sideOk_leafF (h0 : lv = 0) (h : ¬ (rdOf ByteArray.empty vals (i : Int)).size ≤ 24) : sideOk lv vals kids i = false := by unfold sideOk; rw [if_pos h0]; exact decide_eq_false h
theorem sideOk_up (h0 : ¬ lv = 0) (h : 1 ≤ rd kids (i : Int) ∧ rd kids (i : Int) ≤ 1023) : sideOk lv vals kids i = true := by unfold sideOk; rw [if_neg h0]; exact decide_eq_true h
theorem sideOk_upF (h0 : ¬ lv = 0) (h : ¬ (1 ≤ rd kids (i : Int) ∧ rd kids (i : Int) ≤ 1023)) : sideOk lv vals kids i = false := by unfold sideOk; rw [if_neg h0]; exact decide_eq_false h
theorem keyOk_long (h : ¬ (rdOf ByteArray.empty keys (i : Int)).size ≤ 16) : keyOk lv keys i = false := by unfold keyOk; rw [decide_eq_false h, Bool.false_and, Bool.and_false]
theorem keyOk_order (hz : ¬ i = 0) (h : Op.bytesLess (rdOf ByteArray.empty keys ((i - 1 : Nat) : Int)).toList (rdOf ByteArray.empty keys (i : Int)).toList = false) : keyOk lv keys i = false := by unfold keyOk; rw [decide_eq_false hz, h, Bool.or_false, Bool.and_false, Bool.and_false]
theorem keyOk_emptyF (h0 : 0 < lv) (hz : i = 0) (h : ¬ (rdOf ByteArray.empty keys (i : Int)).toList = []) : keyOk lv keys i = false := by unfold keyOk; rw [decide_eq_true (show 0 < lv ∧ i = 0 from ⟨h0, hz⟩), decide_eq_false h]; rfl
theorem keyOk_emptyT (h0 : ¬ (0 < lv ∧ i = 0)) (h : (rdOf ByteArray.empty keys (i : Int)).toList = []) : keyOk lv keys i = false := by unfold keyOk; rw [decide_eq_false h0, decide_eq_true h]; rfl
theorem keyOk_firstL (h0 : ¬ 0 < lv) (hz : i = 0) (h : ¬ (rdOf ByteArray.empty keys (i : Int)).toList = []) (hS : (rdOf ByteArray.empty keys (i : Int)).size ≤ 16) : keyOk lv keys i = true := by unfold keyOk; rw [decide_eq_false (show ¬ (0 < lv ∧ i = 0) from fun e => h0 e.1), decide_eq_false h, decide_eq_true hS, decide_eq_true hz]; rfl
theorem keyOk_firstU (h0 : 0 < lv) (hz : i = 0) (h : (rdOf ByteArray.empty keys (i : Int)).toList = []) (hS : (rdOf ByteArray.empty keys (i : Int)).size ≤ 16) : keyOk lv keys i = true := by unfold keyOk; rw [decide_eq_true (show 0 < lv ∧ i = 0 from ⟨h0, hz⟩), decide_eq_true h, decide_eq_true hS, decide_eq_true hz]; rfl
theorem keyOk_later (hz : ¬ i = 0) (h : ¬ (rdOf ByteArray.empty keys (i : Int)).toList = []) (hS : (rdOf ByteArray.empty keys (i : Int)).size ≤ 16) (hL : Op.bytesLess (rdOf ByteArray.empty keys ((i - 1 : Nat) : Int)).toList (rdOf ByteArray.empty keys (i : Int)).toList = true) : keyOk lv keys i = true := by unfold keyOk; rw [decide_eq_false (show ¬ (0 < lv ∧ i = 0) from fun e => hz e.2), decide_eq_false h, decide_eq_true hS, hL, Bool.or_true]; rfl
end
-- @GIVEN page_Right
/-! ### page_Right: by hand -/
/-- Is a value too long? Is a page's number none? -/
def anyLong : List ByteArray → Bool
 | [] => false
 | v :: l => decide (24 < (v.size : Int)) || anyLong l
def anyBad : List Int → Bool
 | [] => false
 | v :: l => (decide (v < 1) || decide (1024 ≤ v)) || anyBad l
def page_Right.f (k : Nat) (lv : Int) (keys : List ByteArray) (vals : List ByteArray) (kids : List Int) : Option Bool :=
 if lv = 0 then (if keys.length ≤ 11 ∧ vals.length = keys.length ∧ kids.length = 0 ∧ anyLong vals = false then page_Page_keyed.f k lv keys vals kids 0 else some false)
 else (if 0 < lv ∧ lv < 6 ∧ 2 ≤ keys.length ∧ keys.length ≤ 25 ∧ kids.length = keys.length ∧ vals.length = 0 ∧ anyBad kids = false then page_Page_keyed.f k lv keys vals kids 1 else some false)
theorem rdOf_drop {α : Type} (d : α) (l : List α) (i : Nat) (h : i < l.length) : l.drop i = rdOf d l (i : Int) :: l.drop (i + 1) := by
 unfold rdOf; rw [List.drop_eq_getElem_cons h, Int.toNat_natCast, List.getD_eq_getElem?_getD, List.getElem?_eq_getElem h]; rfl
theorem rd_drop (l : List Int) (i : Nat) (h : i < l.length) : l.drop i = rd l (i : Int) :: l.drop (i + 1) := by
 unfold rd; rw [List.drop_eq_getElem_cons h, Int.toNat_natCast, List.getD_eq_getElem?_getD, List.getElem?_eq_getElem h]; rfl
theorem cLong (v : ByteArray) (w : World) : Calls Tryz.prog 25 #[.string v] w fun e w' => e = .returned (.bool (decide (24 < (v.size : Int)))) ∧ w' = w := by
 go_enter Tryz.func25, Tryz.ntmps25
 go_wp2
 go_ret
 exact ⟨rfl, rfl⟩
theorem cBad (v : Int) (w : World) : Calls Tryz.prog 28 #[.int .i64 v] w fun e w' => e = .returned (.bool (decide (v < 1) || decide (1024 ≤ v))) ∧ w' = w := by
 by_cases h : v < 1
 ·have h1 : decide (v < 1) = true := decide_eq_true h; rw [h1, Bool.true_or]; go_enter Tryz.func28, Tryz.ntmps28
  go_wp2
  go_ret
  exact ⟨z58, rfl⟩
 ·have h1 : decide (v < 1) = false := decide_eq_false h; rw [h1, Bool.false_or]; go_enter Tryz.func28, Tryz.ntmps28
  go_wp2
  go_ret
  exact ⟨z58, rfl⟩
set_option maxHeartbeats 4000000 in
set_option maxRecDepth 100000 in
theorem ixLong (A : Option Addr) (c : Nat) (l : List ByteArray) (r : Bool) (w : World) (hr : Kd.C Kd.string w A l.length l) (h : anyLong l = r) :
  Calls Tryz.prog 47 #[.slice A l.length c, .func (.func 25) #[] #[]] w fun e w' => (∃ i : Int, e = .returned (.int .i64 i) ∧ decide (0 ≤ i) = r) ∧ Below w.heap.size w w' := by
 have HR := Aside0.mk hr; have HH := Aside0.mk h; have HLM := Aside0.mk hr.2.1; have HB := Aside0.mk (Below.refl w.heap.size w); clear hr h; go_enter Tryz.func47, Tryz.ntmps47
 go_wp2_with fail
 go_loopg [5, 8] (l.length + 1) (fun kq v5 v8 w' => ∃ i : Nat, v8 = .int .i64 (i : Int) ∧ Aside0 (i ≤ l.length ∧ kq = l.length - i + 1) ∧ Aside0 (anyLong (l.drop i) = r) ∧ Aside0 (Below w.heap.size w w'))
 case atStart => exact ⟨0, rfl, ⟨by omega, by omega⟩, by rw [List.drop_zero]; exact HH, HB⟩
 case round =>
  clear HH HB; obtain ⟨i, rfl, HI, HH, HB⟩ := hrel
  by_cases c1 : i < l.length
  ·have e1 : decide ((i : Int) < (l.length : Int)) = true := decide_eq_true (by omega); have p1 := eq_true (show (0 : Int) ≤ (i : Int) by omega); have p2 := eq_true (show (i : Int) < (l.length : Int) by omega); have p3 := eq_true c1; have hi1 : wrap64 ((i : Int) + 1) = ((i + 1 : Nat) : Int) := by have := HLM.out; unfold maxLen at this; unfold wrap64; omega
   have HI1 := Aside0.mk hi1; clear hi1; obtain ⟨ad, rfl, hx0⟩ := Kd.at_string (Kd.C_below HR.out HB.out) (i : Int) (by omega) (by omega); rw [show ((i : Int)).toNat = i from rfl] at hx0; have H := HH.out; rw [rdOf_drop ByteArray.empty l i c1, anyLong] at H; clear HH; generalize rdOf ByteArray.empty l (i : Int) = x at *
   by_cases ht : (decide (24 < (x.size : Int))) = true
   ·rw [ht, Bool.true_or] at H; subst H; go_wp2_with (go_at_call 25; (with_reducible refine (cLong x _).mono ?_); rintro e w5 ⟨rfl, rfl⟩; rw [ht])
    go_ret
    exact ⟨⟨(i : Int), rfl, by simp⟩, HB.out⟩
   ·rw [Bool.not_eq_true] at ht; rw [ht, Bool.false_or] at H; have H' := Aside0.mk H; clear H; go_wp2_with (go_at_call 25; (with_reducible refine (cLong x _).mono ?_); rintro e w5 ⟨rfl, rfl⟩; rw [ht])
    go_roundg (l.length - i)
    case measure => have := HI.out; omega
    case rel => exact ⟨i + 1, z55, ⟨by omega, by omega⟩, H', HB⟩
  ·have e1 : decide ((i : Int) < (l.length : Int)) = false := decide_eq_false (by omega); have H := HH.out; rw [List.drop_eq_nil_of_le (by omega)] at H; obtain rfl : false = r := H; go_wp2_with fail
   go_ret
   exact ⟨⟨-1, rfl, by decide⟩, HB.out⟩
set_option maxHeartbeats 4000000 in
theorem cfLong (A : Option Addr) (c : Nat) (l : List ByteArray) (r : Bool) (w : World) (hr : Kd.C Kd.string w A l.length l) (h : anyLong l = r) :
  Calls Tryz.prog 24 #[.slice A l.length c, .func (.func 25) #[] #[]] w fun e w' => e = .returned (.bool r) ∧ Below w.heap.size w w' := by
 have HR := Aside0.mk hr; have HH := Aside0.mk h; clear hr h; go_enter Tryz.func24, Tryz.ntmps24
 go_wp2_with (go_at_call 47; (with_reducible refine (ixLong A c l r _ HR.out HH.out).mono ?_); rintro e w5 ⟨⟨i, rfl, hi⟩, hb5⟩; have HI := Aside0.mk hi; have HB5 := Aside0.mk hb5; clear hb5)
 go_ret
 exact ⟨by first | rfl | (rw [← HI.out]; rfl), HB5.out⟩
set_option maxHeartbeats 4000000 in
set_option maxRecDepth 100000 in
theorem ixBad (A : Option Addr) (c : Nat) (l : List Int) (r : Bool) (w : World) (hr : Kd.C (Kd.int .i64) w A l.length l) (h : anyBad l = r) :
  Calls Tryz.prog 48 #[.slice A l.length c, .func (.func 28) #[] #[]] w fun e w' => (∃ i : Int, e = .returned (.int .i64 i) ∧ decide (0 ≤ i) = r) ∧ Below w.heap.size w w' := by
 have HR := Aside0.mk hr; have HH := Aside0.mk h; have HLM := Aside0.mk hr.2.1; have HB := Aside0.mk (Below.refl w.heap.size w); clear hr h; go_enter Tryz.func48, Tryz.ntmps48
 go_wp2_with fail
 go_loopg [5, 8] (l.length + 1) (fun kq v5 v8 w' => ∃ i : Nat, v8 = .int .i64 (i : Int) ∧ Aside0 (i ≤ l.length ∧ kq = l.length - i + 1) ∧ Aside0 (anyBad (l.drop i) = r) ∧ Aside0 (Below w.heap.size w w'))
 case atStart => exact ⟨0, rfl, ⟨by omega, by omega⟩, by rw [List.drop_zero]; exact HH, HB⟩
 case round =>
  clear HH HB; obtain ⟨i, rfl, HI, HH, HB⟩ := hrel
  by_cases c1 : i < l.length
  ·have e1 : decide ((i : Int) < (l.length : Int)) = true := decide_eq_true (by omega); have p1 := eq_true (show (0 : Int) ≤ (i : Int) by omega); have p2 := eq_true (show (i : Int) < (l.length : Int) by omega); have p3 := eq_true c1; have hi1 : wrap64 ((i : Int) + 1) = ((i + 1 : Nat) : Int) := by have := HLM.out; unfold maxLen at this; unfold wrap64; omega
   have HI1 := Aside0.mk hi1; clear hi1; obtain ⟨ad, rfl, hx0⟩ := Kd.at_int (Kd.C_below HR.out HB.out) (i : Int) (by omega) (by omega); rw [show ((i : Int)).toNat = i from rfl] at hx0; have H := HH.out; rw [rd_drop l i c1, anyBad] at H; clear HH; generalize rd l (i : Int) = x at *
   by_cases ht : (decide (x < 1) || decide (1024 ≤ x)) = true
   ·rw [ht, Bool.true_or] at H; subst H; go_wp2_with (go_at_call 28; (with_reducible refine (cBad x _).mono ?_); rintro e w5 ⟨rfl, rfl⟩; rw [ht])
    go_ret
    exact ⟨⟨(i : Int), rfl, by simp⟩, HB.out⟩
   ·rw [Bool.not_eq_true] at ht; rw [ht, Bool.false_or] at H; have H' := Aside0.mk H; clear H; go_wp2_with (go_at_call 28; (with_reducible refine (cBad x _).mono ?_); rintro e w5 ⟨rfl, rfl⟩; rw [ht])
    go_roundg (l.length - i)
    case measure => have := HI.out; omega
    case rel => exact ⟨i + 1, z55, ⟨by omega, by omega⟩, H', HB⟩
  ·have e1 : decide ((i : Int) < (l.length : Int)) = false := decide_eq_false (by omega); have H := HH.out; rw [List.drop_eq_nil_of_le (by omega)] at H; obtain rfl : false = r := H; go_wp2_with fail
   go_ret
   exact ⟨⟨-1, rfl, by decide⟩, HB.out⟩
set_option maxHeartbeats 4000000 in
theorem cfBad (A : Option Addr) (c : Nat) (l : List Int) (r : Bool) (w : World) (hr : Kd.C (Kd.int .i64) w A l.length l) (h : anyBad l = r) :
  Calls Tryz.prog 27 #[.slice A l.length c, .func (.func 28) #[] #[]] w fun e w' => e = .returned (.bool r) ∧ Below w.heap.size w w' := by
 have HR := Aside0.mk hr; have HH := Aside0.mk h; clear hr h; go_enter Tryz.func27, Tryz.ntmps27
 go_wp2_with (go_at_call 48; (with_reducible refine (ixBad A c l r _ HR.out HH.out).mono ?_); rintro e w5 ⟨⟨i, rfl, hi⟩, hb5⟩; have HI := Aside0.mk hi; have HB5 := Aside0.mk hb5; clear hb5)
 go_ret
 exact ⟨by first | rfl | (rw [← HI.out]; rfl), HB5.out⟩
set_option maxHeartbeats 8000000 in
set_option maxRecDepth 100000 in
theorem page_Right.calls (k : Nat) (a0_0 : Int) (A0_1 : Option Addr) (c0_1 : Nat) (l0_1 : List ByteArray) (A0_2 : Option Addr) (c0_2 : Nat) (l0_2 : List ByteArray) (A0_3 : Option Addr) (c0_3 : Nat) (l0_3 : List Int) (r : Bool) (w : World) (hr0_1 : Kd.C Kd.string w A0_1 l0_1.length l0_1) (hc0_1 : l0_1.length ≤ c0_1) (hr0_2 : Kd.C Kd.string w A0_2 l0_2.length l0_2) (hc0_2 : l0_2.length ≤ c0_2) (hr0_3 : Kd.C (Kd.int .i64) w A0_3 l0_3.length l0_3) (hc0_3 : l0_3.length ≤ c0_3) (h : page_Right.f k a0_0 l0_1 l0_2 l0_3 = some r) :
  Calls Tryz.prog 9 #[.agg #[.int .i64 a0_0, .slice A0_1 l0_1.length c0_1, .slice A0_2 l0_2.length c0_2, .slice A0_3 l0_3.length c0_3]] w fun e w' => e = .returned (.bool r) ∧ Below w.heap.size w w' := by
 have HR1 := Aside0.mk (fun (W : World) (hb : Below w.heap.size w W) => Kd.C_below hr0_1 hb); have HR2 := Aside0.mk (fun (W : World) (hb : Below w.heap.size w W) => Kd.C_below hr0_2 hb); have HR3 := Aside0.mk (fun (W : World) (hb : Below w.heap.size w W) => Kd.C_below hr0_3 hb); have HC1 := Aside0.mk hc0_1; have HC2 := Aside0.mk hc0_2; have HC3 := Aside0.mk hc0_3; have HB0 := Aside0.mk (below_alloc (Below.refl w.heap.size w) (.cells #[.int .i64 a0_0, .slice A0_1 l0_1.length c0_1, .slice A0_2 l0_2.length c0_2, .slice A0_3 l0_3.length c0_3] 28)); have HX0 := Aside0.mk (heap_alloc_new w (.cells #[.int .i64 a0_0, .slice A0_1 l0_1.length c0_1, .slice A0_2 l0_2.length c0_2, .slice A0_3 l0_3.length c0_3] 28)); have hu := Tryz.underlying28; clear hr0_1 hc0_1 hr0_2 hc0_2 hr0_3 hc0_3; unfold page_Right.f at h
 by_cases hl : a0_0 = 0
 ·subst hl; rw [if_pos rfl] at h
  by_cases hc : l0_1.length ≤ 11 ∧ l0_2.length = l0_1.length ∧ l0_3.length = 0 ∧ anyLong l0_2 = false
  ·rw [if_pos hc] at h; have HK := Aside0.mk h; obtain ⟨h1, h2, h3, h4⟩ := hc; clear h; have d1 : decide ((l0_1.length : Int) ≤ 11) = true := decide_eq_true (by omega); have d2a : ((l0_2.length : Int) == (l0_1.length : Int)) = true := beq_iff_eq.2 (by omega); have d2b : (l0_2.length == l0_1.length) = true := beq_iff_eq.2 (by omega); have d2c : decide (l0_2.length = l0_1.length) = true := decide_eq_true (by omega); have d2d := eq_true (show (l0_2.length = l0_1.length) by omega); have d3a : ((l0_3.length : Int) == (0 : Int)) = true := beq_iff_eq.2 (by omega); have d3b : (l0_3.length == 0) = true := beq_iff_eq.2 (by omega); have d3c : decide (l0_3.length = 0) = true := decide_eq_true (by omega); have d3d := eq_true (show (l0_3.length = 0) by omega); clear h1 h2 h3; go_enter Tryz.func9, Tryz.ntmps9
   go_wp2_with (first
    | (go_at_call 24; (with_reducible refine (cfLong A0_2 c0_2 l0_2 _ _ (HR2.out _ HB0.out) rfl).mono ?_); rintro e w1 ⟨rfl, hb1⟩; have HB1 := Aside0.mk (below_step HB0.out hb1); have HX1 := Aside0.mk (blk_below HX0.out hb1); have hx0 := (blk_cell HX1.out 0).trans rfl; have hx1 := (blk_cell HX1.out 1).trans rfl; have hx2 := (blk_cell HX1.out 2).trans rfl; have hx3 := (blk_cell HX1.out 3).trans rfl; clear hb1; rw [h4])
    | (go_at_call 26; (with_reducible refine (page_Page_keyed.calls k 0 A0_1 c0_1 l0_1 A0_2 c0_2 l0_2 A0_3 c0_3 l0_3 0 r _ (HR1.out _ HB1.out) HC1.out (HR2.out _ HB1.out) HC2.out (HR3.out _ HB1.out) HC3.out HK.out).mono ?_); rintro e w2 ⟨rfl, hb2⟩; have HB2 := Aside0.mk (below_step HB1.out hb2); clear hb2))
   go_ret
   exact ⟨z58, HB2.out⟩
  ·rw [if_neg hc] at h; obtain rfl := Option.some.inj h; clear h; have hc' : ¬ l0_1.length ≤ 11 ∨ (l0_1.length ≤ 11 ∧ ¬ l0_2.length = l0_1.length) ∨ (l0_1.length ≤ 11 ∧ l0_2.length = l0_1.length ∧ ¬ l0_3.length = 0) ∨ (l0_1.length ≤ 11 ∧ l0_2.length = l0_1.length ∧ l0_3.length = 0 ∧ anyLong l0_2 = true) := by
    by_cases x1 : l0_1.length ≤ 11
    ·by_cases x2 : l0_2.length = l0_1.length
     ·by_cases x3 : l0_3.length = 0
      ·exact .inr (.inr (.inr ⟨x1, x2, x3, by cases x4 : anyLong l0_2; exact absurd ⟨x1, x2, x3, x4⟩ hc; rfl⟩))
      ·exact .inr (.inr (.inl ⟨x1, x2, x3⟩))
     ·exact .inr (.inl ⟨x1, x2⟩)
    ·exact .inl x1
   clear hc; rcases hc' with h1 | ⟨h1, h2⟩ | ⟨h1, h2, h3⟩ | ⟨h1, h2, h3, h4⟩
   ·skip; have d1 : decide ((l0_1.length : Int) ≤ 11) = false := decide_eq_false (by omega); clear h1; go_enter Tryz.func9, Tryz.ntmps9
    go_wp2_with (go_at_call 24; (with_reducible refine (cfLong A0_2 c0_2 l0_2 _ _ (HR2.out _ HB0.out) rfl).mono ?_); rintro e w1 ⟨rfl, hb1⟩; have HB1 := Aside0.mk (below_step HB0.out hb1); have HX1 := Aside0.mk (blk_below HX0.out hb1); have hx0 := (blk_cell HX1.out 0).trans rfl; have hx1 := (blk_cell HX1.out 1).trans rfl; have hx2 := (blk_cell HX1.out 2).trans rfl; have hx3 := (blk_cell HX1.out 3).trans rfl; clear hb1)
    go_ret
    exact ⟨z58, HB1.out⟩
   ·skip; have d1 : decide ((l0_1.length : Int) ≤ 11) = true := decide_eq_true (by omega); have d2a : ((l0_2.length : Int) == (l0_1.length : Int)) = false := beq_eq_false_iff_ne.2 (by omega); have d2b : (l0_2.length == l0_1.length) = false := beq_eq_false_iff_ne.2 (by omega); have d2c : decide (l0_2.length = l0_1.length) = false := decide_eq_false (by omega); have d2d := eq_false (show ¬ (l0_2.length = l0_1.length) by omega); clear h1 h2; go_enter Tryz.func9, Tryz.ntmps9
    go_wp2_with (go_at_call 24; (with_reducible refine (cfLong A0_2 c0_2 l0_2 _ _ (HR2.out _ HB0.out) rfl).mono ?_); rintro e w1 ⟨rfl, hb1⟩; have HB1 := Aside0.mk (below_step HB0.out hb1); have HX1 := Aside0.mk (blk_below HX0.out hb1); have hx0 := (blk_cell HX1.out 0).trans rfl; have hx1 := (blk_cell HX1.out 1).trans rfl; have hx2 := (blk_cell HX1.out 2).trans rfl; have hx3 := (blk_cell HX1.out 3).trans rfl; clear hb1)
    go_ret
    exact ⟨z58, HB1.out⟩
   ·skip; have d1 : decide ((l0_1.length : Int) ≤ 11) = true := decide_eq_true (by omega); have d2a : ((l0_2.length : Int) == (l0_1.length : Int)) = true := beq_iff_eq.2 (by omega); have d2b : (l0_2.length == l0_1.length) = true := beq_iff_eq.2 (by omega); have d2c : decide (l0_2.length = l0_1.length) = true := decide_eq_true (by omega); have d2d := eq_true (show (l0_2.length = l0_1.length) by omega); have d3a : ((l0_3.length : Int) == (0 : Int)) = false := beq_eq_false_iff_ne.2 (by omega); have d3b : (l0_3.length == 0) = false := beq_eq_false_iff_ne.2 (by omega); have d3c : decide (l0_3.length = 0) = false := decide_eq_false (by omega); have d3d := eq_false (show ¬ (l0_3.length = 0) by omega); clear h1 h2 h3; go_enter Tryz.func9, Tryz.ntmps9
    go_wp2_with (go_at_call 24; (with_reducible refine (cfLong A0_2 c0_2 l0_2 _ _ (HR2.out _ HB0.out) rfl).mono ?_); rintro e w1 ⟨rfl, hb1⟩; have HB1 := Aside0.mk (below_step HB0.out hb1); have HX1 := Aside0.mk (blk_below HX0.out hb1); have hx0 := (blk_cell HX1.out 0).trans rfl; have hx1 := (blk_cell HX1.out 1).trans rfl; have hx2 := (blk_cell HX1.out 2).trans rfl; have hx3 := (blk_cell HX1.out 3).trans rfl; clear hb1)
    go_ret
    exact ⟨z58, HB1.out⟩
   ·skip; have d1 : decide ((l0_1.length : Int) ≤ 11) = true := decide_eq_true (by omega); have d2a : ((l0_2.length : Int) == (l0_1.length : Int)) = true := beq_iff_eq.2 (by omega); have d2b : (l0_2.length == l0_1.length) = true := beq_iff_eq.2 (by omega); have d2c : decide (l0_2.length = l0_1.length) = true := decide_eq_true (by omega); have d2d := eq_true (show (l0_2.length = l0_1.length) by omega); have d3a : ((l0_3.length : Int) == (0 : Int)) = true := beq_iff_eq.2 (by omega); have d3b : (l0_3.length == 0) = true := beq_iff_eq.2 (by omega); have d3c : decide (l0_3.length = 0) = true := decide_eq_true (by omega); have d3d := eq_true (show (l0_3.length = 0) by omega); clear h1 h2 h3; go_enter Tryz.func9, Tryz.ntmps9
    go_wp2_with (go_at_call 24; (with_reducible refine (cfLong A0_2 c0_2 l0_2 _ _ (HR2.out _ HB0.out) rfl).mono ?_); rintro e w1 ⟨rfl, hb1⟩; have HB1 := Aside0.mk (below_step HB0.out hb1); have HX1 := Aside0.mk (blk_below HX0.out hb1); have hx0 := (blk_cell HX1.out 0).trans rfl; have hx1 := (blk_cell HX1.out 1).trans rfl; have hx2 := (blk_cell HX1.out 2).trans rfl; have hx3 := (blk_cell HX1.out 3).trans rfl; clear hb1; rw [h4])
    go_ret
    exact ⟨z58, HB1.out⟩
 ·rw [if_neg hl] at h; have n0 : (a0_0 == 0) = false := beq_eq_false_iff_ne.2 hl
  by_cases hc : 0 < a0_0 ∧ a0_0 < 6 ∧ 2 ≤ l0_1.length ∧ l0_1.length ≤ 25 ∧ l0_3.length = l0_1.length ∧ l0_2.length = 0 ∧ anyBad l0_3 = false
  ·rw [if_pos hc] at h; have HK := Aside0.mk h; obtain ⟨h1, h2, h3, h4, h5, h6, h7⟩ := hc; clear h; have d1 : decide (0 < a0_0) = true := decide_eq_true (by omega); have d2 : decide (a0_0 < 6) = true := decide_eq_true (by omega); have d3 : decide (2 ≤ (l0_1.length : Int)) = true := decide_eq_true (by omega); have d4 : decide ((l0_1.length : Int) ≤ 25) = true := decide_eq_true (by omega); have d5a : ((l0_3.length : Int) == (l0_1.length : Int)) = true := beq_iff_eq.2 (by omega); have d5b : (l0_3.length == l0_1.length) = true := beq_iff_eq.2 (by omega); have d5c : decide (l0_3.length = l0_1.length) = true := decide_eq_true (by omega); have d5d := eq_true (show (l0_3.length = l0_1.length) by omega); have d6a : ((l0_2.length : Int) == (0 : Int)) = true := beq_iff_eq.2 (by omega); have d6b : (l0_2.length == 0) = true := beq_iff_eq.2 (by omega); have d6c : decide (l0_2.length = 0) = true := decide_eq_true (by omega); have d6d := eq_true (show (l0_2.length = 0) by omega); clear hl h1 h2 h3 h4 h5 h6; go_enter Tryz.func9, Tryz.ntmps9
   go_wp2_with (first
    | (go_at_call 27; (with_reducible refine (cfBad A0_3 c0_3 l0_3 _ _ (HR3.out _ HB0.out) rfl).mono ?_); rintro e w1 ⟨rfl, hb1⟩; have HB1 := Aside0.mk (below_step HB0.out hb1); have HX1 := Aside0.mk (blk_below HX0.out hb1); have hx0 := (blk_cell HX1.out 0).trans rfl; have hx1 := (blk_cell HX1.out 1).trans rfl; have hx2 := (blk_cell HX1.out 2).trans rfl; have hx3 := (blk_cell HX1.out 3).trans rfl; clear hb1; rw [h7])
    | (go_at_call 26; (with_reducible refine (page_Page_keyed.calls k a0_0 A0_1 c0_1 l0_1 A0_2 c0_2 l0_2 A0_3 c0_3 l0_3 1 r _ (HR1.out _ HB1.out) HC1.out (HR2.out _ HB1.out) HC2.out (HR3.out _ HB1.out) HC3.out HK.out).mono ?_); rintro e w2 ⟨rfl, hb2⟩; have HB2 := Aside0.mk (below_step HB1.out hb2); clear hb2))
   go_ret
   exact ⟨z58, HB2.out⟩
  ·rw [if_neg hc] at h; obtain rfl := Option.some.inj h; clear h; have hc' : (¬ 0 < a0_0) ∨ (0 < a0_0 ∧ ¬ a0_0 < 6) ∨ (0 < a0_0 ∧ a0_0 < 6 ∧ ¬ 2 ≤ l0_1.length) ∨ (0 < a0_0 ∧ a0_0 < 6 ∧ 2 ≤ l0_1.length ∧ ¬ l0_1.length ≤ 25) ∨ (0 < a0_0 ∧ a0_0 < 6 ∧ 2 ≤ l0_1.length ∧ l0_1.length ≤ 25 ∧ ¬ l0_3.length = l0_1.length) ∨ (0 < a0_0 ∧ a0_0 < 6 ∧ 2 ≤ l0_1.length ∧ l0_1.length ≤ 25 ∧ l0_3.length = l0_1.length ∧ ¬ l0_2.length = 0) ∨ (0 < a0_0 ∧ a0_0 < 6 ∧ 2 ≤ l0_1.length ∧ l0_1.length ≤ 25 ∧ l0_3.length = l0_1.length ∧ l0_2.length = 0 ∧ anyBad l0_3 = true) := by
    by_cases x7 : anyBad l0_3 = false
    ·have : ¬ (0 < a0_0 ∧ a0_0 < 6 ∧ 2 ≤ l0_1.length ∧ l0_1.length ≤ 25 ∧ l0_3.length = l0_1.length ∧ l0_2.length = 0) := fun x => hc ⟨x.1, x.2.1, x.2.2.1, x.2.2.2.1, x.2.2.2.2.1, x.2.2.2.2.2, x7⟩
     omega
    ·rw [Bool.not_eq_false] at x7; simp only [x7, and_true]; omega
   clear hc; rcases hc' with h1 | ⟨h1, h2⟩ | ⟨h1, h2, h3⟩ | ⟨h1, h2, h3, h4⟩ | ⟨h1, h2, h3, h4, h5⟩ | ⟨h1, h2, h3, h4, h5, h6⟩ | ⟨h1, h2, h3, h4, h5, h6, h7⟩
   ·skip; have d1 : decide (0 < a0_0) = false := decide_eq_false (by omega); clear hl h1; go_enter Tryz.func9, Tryz.ntmps9
    go_wp2_with (go_at_call 27; (with_reducible refine (cfBad A0_3 c0_3 l0_3 _ _ (HR3.out _ HB0.out) rfl).mono ?_); rintro e w1 ⟨rfl, hb1⟩; have HB1 := Aside0.mk (below_step HB0.out hb1); have HX1 := Aside0.mk (blk_below HX0.out hb1); have hx0 := (blk_cell HX1.out 0).trans rfl; have hx1 := (blk_cell HX1.out 1).trans rfl; have hx2 := (blk_cell HX1.out 2).trans rfl; have hx3 := (blk_cell HX1.out 3).trans rfl; clear hb1)
    go_ret
    exact ⟨z58, HB1.out⟩
   ·skip; have d1 : decide (0 < a0_0) = true := decide_eq_true (by omega); have d2 : decide (a0_0 < 6) = false := decide_eq_false (by omega); clear hl h1 h2; go_enter Tryz.func9, Tryz.ntmps9
    go_wp2_with (go_at_call 27; (with_reducible refine (cfBad A0_3 c0_3 l0_3 _ _ (HR3.out _ HB0.out) rfl).mono ?_); rintro e w1 ⟨rfl, hb1⟩; have HB1 := Aside0.mk (below_step HB0.out hb1); have HX1 := Aside0.mk (blk_below HX0.out hb1); have hx0 := (blk_cell HX1.out 0).trans rfl; have hx1 := (blk_cell HX1.out 1).trans rfl; have hx2 := (blk_cell HX1.out 2).trans rfl; have hx3 := (blk_cell HX1.out 3).trans rfl; clear hb1)
    go_ret
    exact ⟨z58, HB1.out⟩
   ·skip; have d1 : decide (0 < a0_0) = true := decide_eq_true (by omega); have d2 : decide (a0_0 < 6) = true := decide_eq_true (by omega); have d3 : decide (2 ≤ (l0_1.length : Int)) = false := decide_eq_false (by omega); clear hl h1 h2 h3; go_enter Tryz.func9, Tryz.ntmps9
    go_wp2_with (go_at_call 27; (with_reducible refine (cfBad A0_3 c0_3 l0_3 _ _ (HR3.out _ HB0.out) rfl).mono ?_); rintro e w1 ⟨rfl, hb1⟩; have HB1 := Aside0.mk (below_step HB0.out hb1); have HX1 := Aside0.mk (blk_below HX0.out hb1); have hx0 := (blk_cell HX1.out 0).trans rfl; have hx1 := (blk_cell HX1.out 1).trans rfl; have hx2 := (blk_cell HX1.out 2).trans rfl; have hx3 := (blk_cell HX1.out 3).trans rfl; clear hb1)
    go_ret
    exact ⟨z58, HB1.out⟩
   ·skip; have d1 : decide (0 < a0_0) = true := decide_eq_true (by omega); have d2 : decide (a0_0 < 6) = true := decide_eq_true (by omega); have d3 : decide (2 ≤ (l0_1.length : Int)) = true := decide_eq_true (by omega); have d4 : decide ((l0_1.length : Int) ≤ 25) = false := decide_eq_false (by omega); clear hl h1 h2 h3 h4; go_enter Tryz.func9, Tryz.ntmps9
    go_wp2_with (go_at_call 27; (with_reducible refine (cfBad A0_3 c0_3 l0_3 _ _ (HR3.out _ HB0.out) rfl).mono ?_); rintro e w1 ⟨rfl, hb1⟩; have HB1 := Aside0.mk (below_step HB0.out hb1); have HX1 := Aside0.mk (blk_below HX0.out hb1); have hx0 := (blk_cell HX1.out 0).trans rfl; have hx1 := (blk_cell HX1.out 1).trans rfl; have hx2 := (blk_cell HX1.out 2).trans rfl; have hx3 := (blk_cell HX1.out 3).trans rfl; clear hb1)
    go_ret
    exact ⟨z58, HB1.out⟩
   ·skip; have d1 : decide (0 < a0_0) = true := decide_eq_true (by omega); have d2 : decide (a0_0 < 6) = true := decide_eq_true (by omega); have d3 : decide (2 ≤ (l0_1.length : Int)) = true := decide_eq_true (by omega); have d4 : decide ((l0_1.length : Int) ≤ 25) = true := decide_eq_true (by omega); have d5a : ((l0_3.length : Int) == (l0_1.length : Int)) = false := beq_eq_false_iff_ne.2 (by omega); have d5b : (l0_3.length == l0_1.length) = false := beq_eq_false_iff_ne.2 (by omega); have d5c : decide (l0_3.length = l0_1.length) = false := decide_eq_false (by omega); have d5d := eq_false (show ¬ (l0_3.length = l0_1.length) by omega); clear hl h1 h2 h3 h4 h5; go_enter Tryz.func9, Tryz.ntmps9
    go_wp2_with (go_at_call 27; (with_reducible refine (cfBad A0_3 c0_3 l0_3 _ _ (HR3.out _ HB0.out) rfl).mono ?_); rintro e w1 ⟨rfl, hb1⟩; have HB1 := Aside0.mk (below_step HB0.out hb1); have HX1 := Aside0.mk (blk_below HX0.out hb1); have hx0 := (blk_cell HX1.out 0).trans rfl; have hx1 := (blk_cell HX1.out 1).trans rfl; have hx2 := (blk_cell HX1.out 2).trans rfl; have hx3 := (blk_cell HX1.out 3).trans rfl; clear hb1)
    go_ret
    exact ⟨z58, HB1.out⟩
   ·skip; have d1 : decide (0 < a0_0) = true := decide_eq_true (by omega); have d2 : decide (a0_0 < 6) = true := decide_eq_true (by omega); have d3 : decide (2 ≤ (l0_1.length : Int)) = true := decide_eq_true (by omega); have d4 : decide ((l0_1.length : Int) ≤ 25) = true := decide_eq_true (by omega); have d5a : ((l0_3.length : Int) == (l0_1.length : Int)) = true := beq_iff_eq.2 (by omega); have d5b : (l0_3.length == l0_1.length) = true := beq_iff_eq.2 (by omega); have d5c : decide (l0_3.length = l0_1.length) = true := decide_eq_true (by omega); have d5d := eq_true (show (l0_3.length = l0_1.length) by omega); have d6a : ((l0_2.length : Int) == (0 : Int)) = false := beq_eq_false_iff_ne.2 (by omega); have d6b : (l0_2.length == 0) = false := beq_eq_false_iff_ne.2 (by omega); have d6c : decide (l0_2.length = 0) = false := decide_eq_false (by omega); have d6d := eq_false (show ¬ (l0_2.length = 0) by omega); clear hl h1 h2 h3 h4 h5 h6; go_enter Tryz.func9, Tryz.ntmps9
    go_wp2_with (go_at_call 27; (with_reducible refine (cfBad A0_3 c0_3 l0_3 _ _ (HR3.out _ HB0.out) rfl).mono ?_); rintro e w1 ⟨rfl, hb1⟩; have HB1 := Aside0.mk (below_step HB0.out hb1); have HX1 := Aside0.mk (blk_below HX0.out hb1); have hx0 := (blk_cell HX1.out 0).trans rfl; have hx1 := (blk_cell HX1.out 1).trans rfl; have hx2 := (blk_cell HX1.out 2).trans rfl; have hx3 := (blk_cell HX1.out 3).trans rfl; clear hb1)
    go_ret
    exact ⟨z58, HB1.out⟩
   ·skip; have d1 : decide (0 < a0_0) = true := decide_eq_true (by omega); have d2 : decide (a0_0 < 6) = true := decide_eq_true (by omega); have d3 : decide (2 ≤ (l0_1.length : Int)) = true := decide_eq_true (by omega); have d4 : decide ((l0_1.length : Int) ≤ 25) = true := decide_eq_true (by omega); have d5a : ((l0_3.length : Int) == (l0_1.length : Int)) = true := beq_iff_eq.2 (by omega); have d5b : (l0_3.length == l0_1.length) = true := beq_iff_eq.2 (by omega); have d5c : decide (l0_3.length = l0_1.length) = true := decide_eq_true (by omega); have d5d := eq_true (show (l0_3.length = l0_1.length) by omega); have d6a : ((l0_2.length : Int) == (0 : Int)) = true := beq_iff_eq.2 (by omega); have d6b : (l0_2.length == 0) = true := beq_iff_eq.2 (by omega); have d6c : decide (l0_2.length = 0) = true := decide_eq_true (by omega); have d6d := eq_true (show (l0_2.length = 0) by omega); clear hl h1 h2 h3 h4 h5 h6; go_enter Tryz.func9, Tryz.ntmps9
    go_wp2_with (go_at_call 27; (with_reducible refine (cfBad A0_3 c0_3 l0_3 _ _ (HR3.out _ HB0.out) rfl).mono ?_); rintro e w1 ⟨rfl, hb1⟩; have HB1 := Aside0.mk (below_step HB0.out hb1); have HX1 := Aside0.mk (blk_below HX0.out hb1); have hx0 := (blk_cell HX1.out 0).trans rfl; have hx1 := (blk_cell HX1.out 1).trans rfl; have hx2 := (blk_cell HX1.out 2).trans rfl; have hx3 := (blk_cell HX1.out 3).trans rfl; clear hb1; rw [h7])
    go_ret
    exact ⟨z58, HB1.out⟩
/-! ### le_Put: function 39 -/
mutual
def le_Put.j0 : Nat → Int → Int → Bool → Option (ByteArray)
 | 0, _, _, _ => none
 | k + 1, x0, x1, x23 => if x23 = true then (some (⟨#[]⟩ : ByteArray)) else (if 0 ≤ x1 then (if (x1 : Int).toNat ≤ 281474976710656 then ((some (List.replicate (x1 : Int).toNat 0 : List Int)).bind fun y106 => (le_Put.l0 k x0 y106 (y106.length : Int) 0)) else (none)) else (none))
def le_Put.l0 : Nat → Int → List Int → Int → Int → Option (ByteArray)
 | 0, _, _, _, _ => none
 | k + 1, x0, x5, x27, x28 => if x28 < x27 then (if 0 ≤ (wrap64 (8 * x28)) then (if 0 ≤ x28 then (if x28 < (x5.length : Int) then (le_Put.l0 k x0 (x5.set (x28 : Int).toNat ((shr .i64 x0 (wrap64 (8 * x28))) % 256)) x27 (wrap64 (x28 + 1))) else (none)) else (none)) else (none)) else (some (strOfNums x5))
end
def le_Put.f (k : Nat) (a0 : Int) (a1 : Int) : Option (ByteArray) := if a1 < 1 then (le_Put.j0 k a0 a1 true) else (if a1 > 7 then (le_Put.j0 k a0 a1 true) else (if a0 < 0 then (le_Put.j0 k a0 a1 true) else (if 0 ≤ (wrap64 (8 * a1)) then (le_Put.j0 k a0 a1 ((shr .i64 a0 (wrap64 (8 * a1))) != 0)) else (none))))
set_option maxHeartbeats 8000000 in
set_option maxRecDepth 100000 in
theorem le_Put.calls (k : Nat) (a0 : Int) (a1 : Int) (r : ByteArray) (w : World) (h : le_Put.f k a0 a1 = some r) :
  Calls Tryz.prog 39 #[.int .i64 a0, .int .i64 a1] w fun e w' => e = .returned (.string r) ∧ Below w.heap.size w w' := by
 have HB := Aside0.mk (Below.refl w.heap.size w); have H : (if a1 < 1 then (le_Put.j0 k a0 a1 true) else (if a1 > 7 then (le_Put.j0 k a0 a1 true) else (if a0 < 0 then (le_Put.j0 k a0 a1 true) else (if 0 ≤ (wrap64 (8 * a1)) then (le_Put.j0 k a0 a1 ((shr .i64 a0 (wrap64 (8 * a1))) != 0)) else (none))))) = some r := h; clear h; have HC3 := Aside0.mk H; clear H; go_enter Tryz.func39, Tryz.ntmps39
 go_upto_region 1 with (fail)
 go_cut [23] (fun v23 wc => ∃ (kq : Nat) (x23_2 : Bool), v23 = .bool x23_2 ∧ Aside0 (le_Put.j0 kq a0 a1 x23_2 = some r) ∧ Aside0 (kq ≤ k) ∧ Aside0 (Below w.heap.size w wc))
 case first =>
  have H := HC3.out; clear HC3
  by_cases c4 : a1 < 1
  ·rw [if_pos c4] at H; have c4b0 : decide (a1 < 1) = true := decide_eq_true c4; clear c4
   (first | rw [c4b0] | (simp only [i64_w, i32_w]; rw [c4b0]) | skip)
   have H' := Aside0.mk H; clear H; go_wp2
   go_meet
   case rel => exact ⟨_, (true), z13, H', ⟨z31⟩, ⟨z8⟩⟩
  ·rw [if_neg c4] at H; have c4b0 : decide (a1 < 1) = false := decide_eq_false c4; clear c4
   (first | rw [c4b0] | (simp only [i64_w, i32_w]; rw [c4b0]) | skip)
   by_cases c5 : a1 > 7
   ·rw [if_pos c5] at H; have c5b0 : decide (7 < a1) = true := decide_eq_true c5; clear c5; have H' := Aside0.mk H; clear H; go_wp2
    go_meet
    case rel => exact ⟨_, (true), z13, H', ⟨z31⟩, ⟨z8⟩⟩
   ·rw [if_neg c5] at H; have c5b0 : decide (7 < a1) = false := decide_eq_false c5; clear c5
    by_cases c6 : a0 < 0
    ·rw [if_pos c6] at H; have c6b0 : decide (a0 < 0) = true := decide_eq_true c6; clear c6; have H' := Aside0.mk H; clear H; go_wp2
     go_meet
     case rel => exact ⟨_, (true), z13, H', ⟨z31⟩, ⟨z8⟩⟩
    ·rw [if_neg c6] at H; have c6b0 : decide (a0 < 0) = false := decide_eq_false c6; clear c6; obtain ⟨ji7, hji7⟩ : ∃ j_ : Int, (wrap64 (8 * a1)) = j_ := ⟨_, rfl⟩
     replace H : (if 0 ≤ (ji7) then (le_Put.j0 k a0 a1 ((shr .i64 a0 (ji7)) != 0)) else (none)) = some r := by first | (rw [hji7] at H; exact H) | (simp only [hji7] at H ⊢; exact H)
     have hji7w : (IntKind.i64.wrap (8 * a1)) = ji7 := (i64_w _).trans hji7
     by_cases c8 : 0 ≤ (ji7)
     ·rw [if_pos c8] at H; have c8b0 := eq_true c8
      try (have c8sa0 := c8b0; simp only [ByteArray.size_append, Int.natCast_add] at c8sa0)
      have c8b1 : decide (0 ≤ (ji7)) = true := decide_eq_true c8; clear c8; obtain ⟨ji9, hji9⟩ : ∃ j_ : Int, (shr .i64 a0 (ji7)) = j_ := ⟨_, rfl⟩
      replace H : (le_Put.j0 k a0 a1 ((ji9) != 0)) = some r := by first | (rw [hji9] at H; exact H) | (simp only [hji9] at H ⊢; exact H)
      have hji9_ : (a0 / 2 ^ min (ji7).toNat 64) = ji9 := hji9; have hji9z : (ji7) ≤ 64 → (a0 / 2 ^ (ji7).toNat) = ji9 := shr_small hji9; have H' := Aside0.mk H; clear H; go_wp2
      go_meet
      case rel => exact ⟨_, (((ji9) != 0)), (by first | rfl | (simp; done) | (simp only [← hji9] <;> (first | rfl | simp)) | (simp [*]; done)), H', ⟨z31⟩, ⟨z8⟩⟩
     ·rw [if_neg c8] at H; exact absurd H (by simp)
 case rest =>
  clear HC3; obtain ⟨kq, x23_2, rfl, HA, HJ2, HB⟩ := hcut; cases kq with
  | zero => exact absurd HA.out (by simp [le_Put.j0])
  | succ kj2 =>
   have H := HA.out; clear HA; simp only [le_Put.j0] at H
   by_cases c10 : x23_2 = true
   ·subst c10; have H1 : (some (⟨#[]⟩ : ByteArray)) = some r := by rw [if_pos rfl] at H; exact H
    clear H; have H := H1; clear H1; obtain rfl := Option.some.inj H; go_wp2
    go_ret
    exact ⟨z12, z8⟩
   ·replace c10 := Bool.eq_false_iff.mpr c10; subst c10; have H1 : (if 0 ≤ a1 then (if (a1 : Int).toNat ≤ 281474976710656 then ((some (List.replicate (a1 : Int).toNat 0 : List Int)).bind fun y106 => (le_Put.l0 kj2 a0 y106 (y106.length : Int) 0)) else (none)) else (none)) = some r := by rw [if_neg (show ¬ (false = true) by decide)] at H; exact H
    clear H; have H := H1; clear H1
    by_cases c11 : 0 ≤ a1
    ·rw [if_pos c11] at H; have c11b0 := eq_true c11
     try (have c11sa0 := c11b0; simp only [ByteArray.size_append, Int.natCast_add] at c11sa0)
     have c11b1 : decide (0 ≤ a1) = true := decide_eq_true c11; clear c11
     by_cases c12 : (a1 : Int).toNat ≤ 281474976710656
     ·rw [if_pos c12] at H; have c12b0 := eq_true c12
      try (have c12sa0 := c12b0; simp only [ByteArray.size_append, Int.natCast_add] at c12sa0)
      have c12b1 : decide ((a1 : Int).toNat ≤ 281474976710656) = true := decide_eq_true c12; clear c12; obtain ⟨y106, hy106⟩ : ∃ y_ : List Int, y_ = (List.replicate (a1 : Int).toNat 0) := ⟨_, rfl⟩
      replace H : (le_Put.l0 kj2 a0 y106 (y106.length : Int) 0) = some r := by first | (rw [hy106]; with_reducible exact H) | (have H2_ := (Option.bind_some _ _).symm.trans H; rw [hy106]; with_reducible exact H2_) | (have H2_ := (Option.bind_some _ _).symm.trans H; with_reducible exact H2_) | with_reducible exact H | (rw [hy106]; exact H) | exact H
      have Ny106 := Aside0.mk hy106; clear hy106; have H' := Aside0.mk H; clear H; go_wp2_with (first | ((with_reducible refine gate_dst (N := 25) rfl ?_); refine Kd.R_make (Kd.int .u8) _ 5 rfl (N := 25) rfl 50 _ _ rfl a1 rfl rfl Tryz.underlying50 (.int .u8 0) 1 info5 rfl (by decide) (by omega) 0 (ok := fun _ => True) (okp := fun _ => True) rfl (fun _ hk => hk) trivial (of_decide_eq_true z11) (Nat.le_trans (Nat.mul_le_mul_right _ (of_decide_eq_true z11 : a1.toNat ≤ 281474976710656)) (by omega)) (Below.refl _ _) (Nat.le_refl _) ?_; intro v107 w13 ho14 hb hg_ hnew_; clear hg_ hnew_; (first | rw [← Ny106.out] at ho14 | (simp only [Int.reduceToNat] at ho14; rw [← Ny106.out] at ho14)); have n0_ := Aside0.mk (Kd.R_lower ho14 (below_size z8)); have n1_ := Aside0.mk (below_step z8 hb); clear HB; have HO108 := n0_; have HB := n1_; clear n0_ n1_; clear hb ho14; obtain ⟨Ao15, co15, eo15⟩ := Kd.R_slice HO108.out; subst eo15))
      go_loopg [28] kj2 (fun kq v28 w' => ∃ (x5_2 : List Int) (x28_2 : Int), v28 = .int .i64 x28_2 ∧ Aside0 (le_Put.l0 kq a0 x5_2 (y106.length : Int) x28_2 = some r) ∧ Aside0 (kq ≤ kj2) ∧ Aside0 (Kd.R (Kd.int .u8) 5 w' w.heap.size (fun _ => True) (.slice Ao15 y106.length co15) x5_2) ∧ Aside0 (Below w.heap.size w w'))
      case atStart => exact ⟨(y106), (0), z13, H', ⟨Nat.le_refl _⟩, ⟨(z2 HO108.out)⟩, ⟨z8⟩⟩
      case round =>
       clear H'
       (try clear c10)
       (try clear c11)
       (try clear c11b0)
       (try clear c11b1)
       (try clear c12)
       (try clear c12b0)
       (try clear c12b1)
       obtain ⟨x5_2, x28_2, rfl, HA, HK2, HO_5, HB⟩ := hrel; have hl5_2 := (Kd.R_reads' HO_5.out).1; rw [hl5_2] at HO_5
       (try simp only [hl5_2])
       cases gk with
       | zero => exact absurd HA.out (by simp [le_Put.l0])
       | succ k2 =>
        have H := HA.out; clear HA; simp only [le_Put.l0] at H
        by_cases c16 : x28_2 < (y106.length : Int)
        ·rw [if_pos c16] at H; have c16b0 : decide (x28_2 < (y106.length : Int)) = true := decide_eq_true c16
         try (have c16bl0 := c16b0; rw [hl5_2] at c16bl0)
         try (have c16bm0 := c16b0; rw [← hl5_2] at c16bm0)
         clear c16; obtain ⟨ji17, hji17⟩ : ∃ j_ : Int, (wrap64 (8 * x28_2)) = j_ := ⟨_, rfl⟩
         replace H : (if 0 ≤ (ji17) then (if 0 ≤ x28_2 then (if x28_2 < (x5_2.length : Int) then (le_Put.l0 k2 a0 (x5_2.set (x28_2 : Int).toNat ((shr .i64 a0 (ji17)) % 256)) (y106.length : Int) (wrap64 (x28_2 + 1))) else (none)) else (none)) else (none)) = some r := by first | (rw [hji17] at H; exact H) | (simp only [hji17] at H ⊢; exact H)
         have hji17w : (IntKind.i64.wrap (8 * x28_2)) = ji17 := (i64_w _).trans hji17
         by_cases c18 : 0 ≤ (ji17)
         ·rw [if_pos c18] at H; have c18b0 := eq_true c18
          try (have c18sa0 := c18b0; simp only [ByteArray.size_append, Int.natCast_add] at c18sa0)
          have c18b1 : decide (0 ≤ (ji17)) = true := decide_eq_true c18; clear c18; obtain ⟨ji19, hji19⟩ : ∃ j_ : Int, (shr .i64 a0 (ji17)) = j_ := ⟨_, rfl⟩
          replace H : (if 0 ≤ x28_2 then (if x28_2 < (x5_2.length : Int) then (le_Put.l0 k2 a0 (x5_2.set (x28_2 : Int).toNat ((ji19) % 256)) (y106.length : Int) (wrap64 (x28_2 + 1))) else (none)) else (none)) = some r := by first | (rw [hji19] at H; exact H) | (simp only [hji19] at H ⊢; exact H)
          have hji19_ : (a0 / 2 ^ min (ji17).toNat 64) = ji19 := hji19; have hji19z : (ji17) ≤ 64 → (a0 / 2 ^ (ji17).toNat) = ji19 := shr_small hji19
          by_cases c20 : 0 ≤ x28_2
          ·rw [if_pos c20] at H; have c20b0 : decide (0 ≤ x28_2) = true := decide_eq_true c20; clear c20
           by_cases c21 : x28_2 < (x5_2.length : Int)
           ·rw [if_pos c21] at H; have c21b0 : decide (x28_2 < (x5_2.length : Int)) = true := decide_eq_true c21
            try (have c21bl0 := c21b0; rw [hl5_2] at c21bl0)
            try (have c21bm0 := c21b0; rw [← hl5_2] at c21bm0)
            clear c21; obtain ⟨y109, hy109⟩ : ∃ y_ : List Int, y_ = (x5_2.set (x28_2 : Int).toNat ((ji19) % 256)) := ⟨_, rfl⟩
            replace H : (le_Put.l0 k2 a0 y109 (y106.length : Int) (wrap64 (x28_2 + 1))) = some r := by first | (rw [hy109]; with_reducible exact H) | (have H2_ := (Option.bind_some _ _).symm.trans H; rw [hy109]; with_reducible exact H2_) | (have H2_ := (Option.bind_some _ _).symm.trans H; with_reducible exact H2_) | with_reducible exact H | (rw [hy109]; exact H) | exact H
            have Ny109 := Aside0.mk hy109; clear hy109; have H' := Aside0.mk H; clear H; have p22 : 0 ≤ (x28_2 : Int) := of_decide_eq_true z11; have q22 : (x28_2 : Int) < ((x5_2.length : Int) : Int) := of_decide_eq_true z11; obtain ⟨go22, co22, eo22, gb22, gl22, cl22, HG22⟩ := Kd.R_form HO_5.out (by omega)
            (first | cases eo22 | (injection eo22 with ea_ en_ ec_; (first | subst ea_ | (injection ea_ with ea_; subst ea_)); subst ec_; clear en_))
            have GB22 := Aside0.mk gb22; have GG22 := Aside0.mk HG22; clear gb22 gl22 HG22; obtain ⟨hx22_0, hf22_0⟩ := Kd.R_celln 0 HO_5.out (x28_2 : Int) p22 q22; replace p22 := eq_true p22; replace q22 := eq_true q22; have HP23 := Kd.R_putg HO_5.out (x28_2 : Int) ((ji19) % 256); go_wp2_with (first | ((with_reducible refine gate_store (t := 5) (p := 38) rfl ?_); refine store_event (t := 5) (p := 38) (v := ?vo_w24) (w1 := (wr.setCell ⟨go22, (x28_2 : Int).toNat, none⟩ (.int .u8 ((ji19) % 256)))) ?hg ?ho ?hn ?hr ?_; (case ho => rfl); (case hg => rfl); (case hn => rfl); (case hr => exact z68); intro w24 hw; have hg : wr.grownBy w24 (some go22) := (by rw [hw]; exact HP23.2); have hp_ : Kd.R (Kd.int .u8) 5 w24 w.heap.size (fun _ => True) (.slice (some ⟨go22, 0, none⟩) x5_2.length co15) y109 := (by rw [hw, Ny109.out]; exact HP23.1); clear HP23; have n0_ := Aside0.mk (hp_); have n1_ := Aside0.mk ((by rw [hw]; exact below_set (HB.out) GB22.out : Below w.heap.size w w24)); clear HO_5; clear HB; have HO_5 := n0_; have HB := n1_; clear n0_ n1_; clear hg hw hp_))
            (try simp only [← hl5_2])
            go_roundg k2
            case measure => have := HJ2.out; have := HK2.out; omega
            case rel => exact ⟨(y109), (wrap64 (x28_2 + 1)), z13, H', ⟨by have := HJ2.out; have := HK2.out; omega⟩, ⟨by (try simp only [hl5_2]); (with_reducible repeat (first | apply Kd.R_alloc | apply Kd.R_drewN | apply Kd.R_drew)); exact HO_5.out⟩, ⟨z8⟩⟩
           ·rw [if_neg c21] at H; exact absurd H (by simp)
          ·rw [if_neg c20] at H; exact absurd H (by simp)
         ·rw [if_neg c18] at H; exact absurd H (by simp)
        ·rw [if_neg c16] at H; have c16b0 : decide (x28_2 < (y106.length : Int)) = false := decide_eq_false c16
         try (have c16bl0 := c16b0; rw [hl5_2] at c16bl0)
         try (have c16bm0 := c16b0; rw [← hl5_2] at c16bm0)
         clear c16; obtain rfl := Option.some.inj H; have hcv25 := own_string (P := Tryz.prog) Tryz.underlying50 Tryz.underlying5 Tryz.underlying9 (Kd.own_of_R HO_5.out); go_wp2
         go_ret
         exact ⟨z12, z8⟩
     ·rw [if_neg c12] at H; exact absurd H (by simp)
    ·rw [if_neg c11] at H; exact absurd H (by simp)
end Go.Proofs.YtegcaniikdibdaaGreatDoor.VPagePuts
