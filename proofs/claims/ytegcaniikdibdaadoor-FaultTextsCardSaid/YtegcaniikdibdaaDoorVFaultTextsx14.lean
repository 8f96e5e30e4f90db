/- Contracts of functions of this seat: each call comes to what its Lean function computes; no condition beyond what each theorem states. Printed by a program of this session's own laid over the kit's printer. -/
import Derived.Test.YtegcaniikdibdaaDoorVFaultTextsx0
import Derived.Test.YtegcaniikdibdaaDoorVFaultTextsx1
namespace Go.Proofs.YtegcaniikdibdaaDoor.VFaultTexts
open Go.RowKit Go.Proofs.YtegcaniikdibdaaDoorW.PrintWords Go.Proofs.YtegcaniikdibdaaDoorW.PrintLast Go.Proofs.YtegcaniikdibdaaDoorW.PrintMore
attribute [local go_sem] max2_int min2_int max_two min_two max_three min_three max_four min_four   -- for this text's walks alone
set_option linter.unusedVariables false
set_option linter.unusedSimpArgs false

-- @GIVEN lib_node
/-- The document's node of an error, its fields out of a struct of five. -/
def NodeV (w : World) (B : Nat) : Int → Int → Int → ByteArray → Value → Er → Prop
  | k, a, n, op, sl, .num m => k = 3 ∧ a = 0 ∧ n = m ∧ op = ⟨#[]⟩ ∧ sl = .slice none 0 0
  | k, a, n, op, sl, .wrap o p e => k = 1 ∧ a = p ∧ n = 0 ∧ op = o ∧ ∃ (g : Nat) (k1 a1 n1 : Int) (o1 : ByteArray) (s1 : Value), sl = .slice (some ⟨g, 0, none⟩) 1 1 ∧ B ≤ g ∧ w.heap[g]? = some (.cells #[.int .i64 k1, .int .i64 a1, .int .i64 n1, .string o1, s1] 30 (0, 0)) ∧ NodeV w B k1 a1 n1 o1 s1 e
  | k, a, n, op, sl, .many e l => k = 2 ∧ a = 0 ∧ n = 0 ∧ op = ⟨#[]⟩ ∧ ∃ (g : Nat) (k1 a1 n1 : Int) (o1 : ByteArray) (s1 : Value) (m : Int), sl = .slice (some ⟨g, 0, none⟩) 2 2 ∧ B ≤ g ∧ l = [m] ∧ w.heap[g]? = some (.cells #[.int .i64 k1, .int .i64 a1, .int .i64 n1, .string o1, s1, .int .i64 3, .int .i64 0, .int .i64 m, .string ⟨#[]⟩, .slice none 0 0] 30 (0, 0)) ∧ NodeV w B k1 a1 n1 o1 s1 e
theorem NodeV.step {w w' : World} {B B' : Nat} (hs : ∀ (k : Nat) (o : Obj), B ≤ k → w.heap[k]? = some o → w'.heap[k]? = some o) (hB : B' ≤ B) : ∀ {e : Er} {k a n : Int} {op : ByteArray} {sl : Value}, NodeV w B k a n op sl e → NodeV w' B' k a n op sl e
  | .num _, _, _, _, _, _, h => h
  | .wrap _ _ _, _, _, _, _, _, ⟨h1, h2, h3, h4, g, k1, a1, n1, o1, s1, h5, h6, h7, h8⟩ => ⟨h1, h2, h3, h4, g, k1, a1, n1, o1, s1, h5, Nat.le_trans hB h6, hs _ _ h6 h7, NodeV.step hs hB h8⟩
  | .many _ _, _, _, _, _, _, ⟨h1, h2, h3, h4, g, k1, a1, n1, o1, s1, m, h5, h6, hm, h7, h8⟩ => ⟨h1, h2, h3, h4, g, k1, a1, n1, o1, s1, m, h5, Nat.le_trans hB h6, hm, hs _ _ h6 h7, NodeV.step hs hB h8⟩
theorem obj_below {w w' : World} (hb : Below w.heap.size w w') {k : Nat} {o : Obj} (h : w.heap[k]? = some o) : w'.heap[k]? = some o := (hb.block k (blk_lt h)).trans h
theorem NodeV.below {w w' : World} {B : Nat} (hb : Below w.heap.size w w') {e : Er} {k a n : Int} {op : ByteArray} {sl : Value} (h : NodeV w B k a n op sl e) : NodeV w' B k a n op sl e := NodeV.step (fun _ _ _ hk => obj_below hb hk) (Nat.le_refl _) h
theorem NodeV.over {w w' : World} {B g : Nat} (hg : w.grownBy w' (some g)) (hB : g < B) {e : Er} {k a n : Int} {op : ByteArray} {sl : Value} (h : NodeV w B k a n op sl e) : NodeV w' B k a n op sl e := NodeV.step (fun i _ hi hk => (hg.block i (blk_lt hk) (fun e => by have := Option.some.inj e; omega)).trans hk) (Nat.le_refl _) h
theorem ErV.over {w w' : World} {g : Nat} {cs : Array Value} {T : TypeId} (hg : w.grownBy w' (some g)) (hc : w.heap[g]? = some (.cells cs T (0, 0))) (h1 : 39 ≠ T) (h2 : 27 ≠ T) : ∀ {e : Er} {v : Value}, ErV w v e → ErV w' v e
  | .num _, _, h => h
  | .wrap _ _ _, _, ⟨k, v1, e1, e2, e3⟩ => ⟨k, v1, e1, (hg.block k (blk_lt e2) (fun e => blk_ne e2 hc h1 (Option.some.inj e))).trans e2, ErV.over hg hc h1 h2 e3⟩
  | .many _ _, _, ⟨sv, v1, e1, e2, e3, e4⟩ => ⟨sv, v1, e1, own_other e2 hg (.inr (fun e => own_ne e2 hc h2 e.symm)), e3, ErV.over hg hc h1 h2 e4⟩
def put5 (W : World) (g : Nat) (a b c d e : Value) : World := ((((W.setCell ⟨g, 0, none⟩ a).setCell ⟨g, 1, none⟩ b).setCell ⟨g, 2, none⟩ c).setCell ⟨g, 3, none⟩ d).setCell ⟨g, 4, none⟩ e
theorem gr5_set {W W' : World} {g : Nat} (h : W.grownBy W' (some g)) (j : Nat) (u : Value) : W.grownBy (W'.setCell ⟨g, j, none⟩ u) (some g) :=
  ⟨h.1, h.2, h.3, by have := h.4; simpa using this, fun k hk hne => (Below.heap_setCell W' ⟨g, j, none⟩ u k (fun e => hne (by rw [e]))).trans (h.block k hk hne)⟩
theorem put5_gr (W : World) (g : Nat) (a b c d e : Value) : W.grownBy (put5 W g a b c d e) (some g) := gr5_set (gr5_set (gr5_set (gr5_set (gr5_set (World.grownBy.refl W _) 0 a) 1 b) 2 c) 3 d) 4 e
theorem put5_blk {W : World} {g : Nat} {a b c d e a' b' c' d' e' : Value} {T : TypeId} (h : W.heap[g]? = some (.cells #[a, b, c, d, e] T (0, 0))) : (put5 W g a' b' c' d' e').heap[g]? = some (.cells #[a', b', c', d', e'] T (0, 0)) := by
  unfold put5
  simp [World.setCell, Array.getElem?_modify, h]
theorem NodeV.num (w : World) (B : Nat) (m : Int) : NodeV w B 3 0 m ⟨#[]⟩ (.slice none 0 0) (.num m) := ⟨rfl, rfl, rfl, rfl, rfl⟩
theorem NodeV.mkW {w : World} {B g : Nat} {k1 a1 n1 p : Int} {o o1 : ByteArray} {s1 : Value} {e : Er} (hg : w.heap[g]? = some (.cells #[.int .i64 k1, .int .i64 a1, .int .i64 n1, .string o1, s1] 30 (0, 0))) (hB : B ≤ g) (h : NodeV w B k1 a1 n1 o1 s1 e) : NodeV w B 1 p 0 o (.slice (some ⟨g, 0, none⟩) 1 1) (.wrap o p e) := ⟨rfl, rfl, rfl, rfl, g, k1, a1, n1, o1, s1, rfl, hB, hg, h⟩
theorem NodeV.mkM {w : World} {B g : Nat} {k1 a1 n1 m : Int} {o1 : ByteArray} {s1 : Value} {e : Er} (hg : w.heap[g]? = some (.cells #[.int .i64 k1, .int .i64 a1, .int .i64 n1, .string o1, s1, .int .i64 3, .int .i64 0, .int .i64 m, .string ⟨#[]⟩, .slice none 0 0] 30 (0, 0))) (hB : B ≤ g) (h : NodeV w B k1 a1 n1 o1 s1 e) : NodeV w B 2 0 0 ⟨#[]⟩ (.slice (some ⟨g, 0, none⟩) 2 2) (.many e [m]) := ⟨rfl, rfl, rfl, rfl, g, k1, a1, n1, o1, s1, m, rfl, hB, rfl, hg, h⟩
/-- A literal of a slice: a letter for its block. -/
theorem lit_event {P : Program} {ops : Array Oper} {o : Oper} {rest : List Oper} {a : Act} {Q : Exit → Act → World → Prop} {W : World} (hgd : o.guard = none) {N : Tmp} (_hd : o.dst = some N) {cs : Array Value} {t : TypeId} {m : Nat}
    (hrun : (execOp a.eval o).run P W = .ok (.value (.slice (some ⟨W.heap.size, 0, none⟩) m m)) (W.alloc (.cells cs t (0, 0))))
    (h : ∀ g, g = W.heap.size → ∀ w1, w1.heap[g]? = some (.cells cs t (0, 0)) → Below W.heap.size W w1 → wpList P ops Q rest (a.put o.dst (.slice (some ⟨g, 0, none⟩) m m)) w1) : wpList P ops Q (o :: rest) a W :=
  Kd.event_run hgd hrun (h _ rfl _ (blk_new W _) (below_alloc (Below.refl _ _) _))
theorem blk_gr5 {W W' : World} {g k : Nat} {o : Obj} (h : W.heap[k]? = some o) (hg : W.grownBy W' (some g)) (hne : k ≠ g) : W'.heap[k]? = some o := (hg.block k (blk_lt h) (fun e => hne (Option.some.inj e))).trans h
theorem NodeV.slice {w : World} {B : Nat} : ∀ {e : Er} {k a n : Int} {op : ByteArray} {sl : Value}, NodeV w B k a n op sl e → ∃ A n c, sl = .slice A n c
  | .num _, _, _, _, _, _, h => ⟨_, _, _, h.2.2.2.2⟩
  | .wrap _ _ _, _, _, _, _, _, ⟨_, _, _, _, g, _, _, _, _, _, h5, _⟩ => ⟨_, _, _, h5⟩
  | .many _ _, _, _, _, _, _, ⟨_, _, _, _, g, _, _, _, _, _, _, h5, _⟩ => ⟨_, _, _, h5⟩
theorem wanted_undef {ops : Array Oper} {o og : Oper} {a : Act} {g : Nat} {u : Bool} {t : Tmp} (hg : o.guard = some (g, u)) (ho : ops[g]? = some og) (hd : og.dst = some t) (hv : a.tmps[t]? = some undef) : Region.wanted o (yielded ops a.tmps) = false := by
  cases u <;> simp_all [Region.wanted, yielded, undef]


end Go.Proofs.YtegcaniikdibdaaDoor.VFaultTexts
