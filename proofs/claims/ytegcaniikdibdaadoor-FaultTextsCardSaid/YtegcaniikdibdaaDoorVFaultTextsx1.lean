/- Contracts of functions of this seat: each call comes to what its Lean function computes; no condition beyond what each theorem states. Printed by a program of this session's own laid over the kit's printer. -/
import Derived.WalkKit
import Derived.LaidEql
import Derived.Stop.Asserts
import Derived.Deep.QuietTactic
import Derived.BigQuiet
import Derived.Lib.AppendZerosOnto
import Derived.Test.YtegcaniikdibdaaDoorVFaultTextsx0
namespace Go.Proofs.YtegcaniikdibdaaDoor.VFaultTexts
open Go.RowKit Go.Proofs.YtegcaniikdibdaaDoorW.PrintWords Go.Proofs.YtegcaniikdibdaaDoorW.PrintLast Go.Proofs.YtegcaniikdibdaaDoorW.PrintMore
attribute [local go_sem] max2_int min2_int max_two min_two max_three min_three max_four min_four   -- for this text's walks alone
set_option linter.unusedVariables false
set_option linter.unusedSimpArgs false

-- @GIVEN lib_err
/-- An error: a number, one wrapped in an operation at a place, one and numbers behind it. -/
inductive Er where
  | num (n : Int)
  | wrap (op : ByteArray) (pl : Int) (e : Er)
  | many (e : Er) (l : List Int)
def Er.sz : Er → Nat
  | .num _ => 1
  | .wrap _ _ e => e.sz + 1
  | .many e l => e.sz + l.length + 1
theorem Er.sz_pos (e : Er) : 0 < e.sz := by cases e <;> simp [Er.sz] <;> omega
def Er.first : Er → Int
  | .num n => n
  | .wrap _ _ e => e.first
  | .many e _ => e.first
def Er.hasNum (m : Int) : Er → Bool
  | .num n => n == m
  | .wrap _ _ e => e.hasNum m
  | .many e l => e.hasNum m || l.any (· == m)
def hitF (op : ByteArray) (pl : Int) (o : ByteArray) (p : Int) : Bool := (op.toList == [] || op.toList == o.toList) && (pl == -1 || pl == p)
def Er.hasF (op : ByteArray) (pl : Int) : Er → Bool
  | .num _ => false
  | .wrap o p e => hitF op pl o p || e.hasF op pl
  | .many e _ => e.hasF op pl
def eNum (n : Int) : Value := .iface 36 (.int .i64 n)
/-- A value that is such an error. -/
def ErV (w : World) : Value → Er → Prop
  | v, .num n => v = eNum n
  | v, .wrap op pl e => ∃ g v1, v = .iface 37 (.pointer (some ⟨g, 0, none⟩)) ∧ w.heap[g]? = some (.cells #[.string op, .int .i64 pl, v1] 39 (0, 0)) ∧ ErV w v1 e
  | v, .many e l => ∃ sv v1, v = .iface 52 sv ∧ w.ownsRow 0 27 1 sv (l.length + 1) (v1 :: l.map eNum) ∧ l.length < 1000 ∧ ErV w v1 e
theorem ErV.below {w w' : World} (hb : Below w.heap.size w w') : ∀ {e : Er} {v : Value}, ErV w v e → ErV w' v e
  | .num _, _, h => h
  | .wrap _ _ e, _, ⟨g, v1, h1, h2, h3⟩ => ⟨g, v1, h1, blk_below h2 hb, ErV.below hb h3⟩
  | .many e _, _, ⟨sv, v1, h1, h2, h3, h4⟩ => ⟨sv, v1, h1, pw_own_below h2 hb, h3, ErV.below hb h4⟩
theorem ErV.mkN (n : Int) (w : World) : ErV w (.iface 36 (.int .i64 n)) (.num n) := rfl
theorem ErV.mkW {g : Nat} {op : ByteArray} {pl : Int} {v1 : Value} {e : Er} {w : World} (hg : w.heap[g]? = some (.cells #[.string op, .int .i64 pl, v1] 39 (0, 0))) (h : ErV w v1 e) : ErV w (.iface 37 (.pointer (some ⟨g, 0, none⟩))) (.wrap op pl e) := ⟨g, v1, rfl, hg, h⟩
theorem ErV.drew {w : World} {e : Er} {v : Value} (h : ErV w v e) : ErV w.drew v e := h.below (Below.refl _ _).drew
theorem ErV.iface {w : World} {e : Er} {v : Value} (h : ErV w v e) : ∃ t x, v = .iface t x := by
  cases e with
  | num n => exact ⟨_, _, h⟩
  | wrap op pl e => obtain ⟨g, v1, h1, _⟩ := h; exact ⟨_, _, h1⟩
  | many e l => obtain ⟨sv, v1, h1, _⟩ := h; exact ⟨_, _, h1⟩
theorem er_neIn (d : Nat) (t u : TypeId) (x y : Value) (h : t ≠ u) (w : World) : (Op.equalIn (d + 1) 27 (.iface t x) (.iface u y)).run Tryd.prog w = .ok false w := by
  simp [Op.equalIn, run_underlying Tryd.underlying27, h]
theorem er_ne (t u : TypeId) (x y : Value) (h : t ≠ u) (w : World) : (binOp .eql 27 (.iface t x) (.iface u y)).run Tryd.prog w = .ok (.bool false) w := by
  simp only [binOp]
  simp [Op.equal, Op.maxDepth, er_neIn 9999 t u x y h]
set_option maxHeartbeats 4000000 in
set_option maxRecDepth 100000 in
theorem eWrap (op : ByteArray) (pl : Int) (e : Er) (v : Value) (w : World) (h : ErV w v e) :
    Calls Tryd.prog 24 #[.string op, .int .i64 pl, v] w fun r w' => ∃ v1, r = .returned v1 ∧ ErV w' v1 (.wrap op pl e) ∧ Below w.heap.size w w' := by
  have HE := Aside0.mk h
  obtain ⟨t, x, rfl⟩ := h.iface
  clear h
  go_enter Tryd.func24, Tryd.ntmps24
  go_wp2
  go_ret
  exact ⟨_, rfl, ⟨_, _, rfl, blk_new _ _, HE.out.below (below_alloc (Below.refl _ _) _)⟩, below_alloc (Below.refl _ _) _⟩
set_option maxHeartbeats 4000000 in
set_option maxRecDepth 100000 in
theorem eWrap_nil (op : ByteArray) (pl : Int) (w : World) :
    Calls Tryd.prog 24 #[.string op, .int .i64 pl, .nilIface] w fun r w' => r = .returned .nilIface ∧ w' = w := by
  go_enter Tryd.func24, Tryd.ntmps24
  go_wp2
  go_ret
  exact ⟨rfl, rfl⟩
/-- A row of errors, opened. -/
theorem row_open {w : World} {B n : Nat} {e : TypeId} {v : Value} {xs : List Value} (h : w.ownsRow B e 1 v n xs) (hn : 0 < n) : ∃ g c, v = .slice (some ⟨g, 0, none⟩) n c ∧ B ≤ g ∧ g < w.heap.size ∧ n ≤ c ∧ ∀ j u, xs[j]? = some u → w.cell? ⟨g, j, none⟩ = some u := by
  have h' := h
  rcases h.2 with ⟨_, h0⟩ | ⟨g, c, cur, rfl, h1, h2, h3, h4, h5, h6⟩
  · omega
  · exact ⟨g, c, rfl, h1, blk_lt h2, h3, fun j u hu => by have := World.ownsRow.cells h' (g := g) rfl j u hu; rwa [add_plain] at this⟩
theorem app_ty (t u ty e e' : TypeId) (ht : Tryd.prog.underlying t = some (.slice e)) (hu : Tryd.prog.underlying u = some (.slice e')) (x y : Value) (w : World) : (Builtin.append_ #[t, u] ty #[x, y]).run Tryd.prog w = (Builtin.append_ #[t, t] ty #[x, y]).run Tryd.prog w := by
  cases x <;> simp [Builtin.append_, Sem.run_bind, run_underlying ht, run_underlying hu]
theorem infoE : (Tryd.prog.info? 27).map (fun i => (i.zero, i.size, i.bytes)) = some (some .nilIface, 1, 16) := by kernel_rfl


end Go.Proofs.YtegcaniikdibdaaDoor.VFaultTexts
