/- Contracts of functions of this seat: each call comes to what its Lean function computes; no condition beyond what each theorem states. Printed by a program of this session's own laid over the kit's printer. -/
import Derived.WalkKit
import Derived.Lib.Hide
import Derived.Maps.OwnSet
import Derived.Maps.OwnOps
import Derived.Lib.AppendZerosOnto
import Derived.Test.YtofiedgnnpednaaDoorVNvmeRefusesx0
namespace Go.Proofs.YtofiedgnnpednaaDoor.VNvmeRefuses
open Go.RowKit Go.Proofs.YtofiedgnnpednaaDoorW.PrintWords Go.Proofs.YtofiedgnnpednaaDoorW.PrintLast Go.Proofs.YtofiedgnnpednaaDoorW.PrintMore
attribute [local go_sem] max2_int min2_int max_two min_two max_three min_three max_four min_four   -- for this text's walks alone
set_option linter.unusedVariables false
set_option linter.unusedSimpArgs false

-- @GIVEN lib_nvme
/-- A command to a device. -/
structure NC where
  kind : Int
  sector : Int
  data : ByteArray
  tag : Int
def encN (c : NC) : List Value := [.int .i64 c.kind, .int .i64 c.sector, .string c.data, .int .i64 c.tag]
def NC.v (c : NC) : Value := .agg #[.int .i64 c.kind, .int .i64 c.sector, .string c.data, .int .i64 c.tag]
def flatN (l : List NC) : List Value := (l.map encN).flatten
theorem flatN_nil : flatN [] = [] := rfl
theorem flatN_cons (c : NC) (l : List NC) : flatN (c :: l) = encN c ++ flatN l := rfl
theorem flatN_append (l m : List NC) : flatN (l ++ m) = flatN l ++ flatN m := by
  unfold flatN
  rw [List.map_append, List.flatten_append]
theorem flatN_length : ∀ l : List NC, (flatN l).length = l.length * 4
  | [] => rfl
  | c :: l => by rw [flatN_cons, List.length_append, flatN_length l, List.length_cons]; show 4 + _ = _; omega
theorem flatN_one (c : NC) : flatN [c] = encN c := by simp [flatN]
theorem flatN_oneCell (l : List NC) : ∀ u ∈ flatN l, u.oneCell' = true := by
  intro u hu
  obtain ⟨x, hx, hu⟩ := List.mem_flatten.1 hu
  obtain ⟨c, _, rfl⟩ := List.mem_map.1 hx
  simp only [encN, List.mem_cons, List.not_mem_nil, or_false] at hu
  rcases hu with rfl | rfl | rfl | rfl <;> rfl
theorem flatN_get : ∀ (l : List NC) (j : Nat) (c : NC), l[j]? = some c → ∀ i, i < 4 → (flatN l)[j * 4 + i]? = (encN c)[i]?
  | [], _, _, h, _, _ => by simp at h
  | x :: l, 0, c, h, i, hi => by
    obtain rfl : x = c := by simpa using h
    rw [flatN_cons, List.getElem?_append_left (by show 0 * 4 + i < 4; omega), Nat.zero_mul, Nat.zero_add]
  | x :: l, j + 1, c, h, i, hi => by
    rw [flatN_cons, List.getElem?_append_right (by show 4 ≤ _; omega), show (j + 1) * 4 + i - (encN x).length = j * 4 + i by show (j + 1) * 4 + i - 4 = _; omega]
    exact flatN_get l j c (by simpa using h) i hi
theorem flatN_take : ∀ (l : List NC) (i : Nat), (flatN l).take (i * 4) = flatN (l.take i)
  | [], i => by simp [flatN]
  | c :: l, 0 => by simp [flatN]
  | c :: l, i + 1 => by
    rw [flatN_cons, List.take_succ_cons, flatN_cons, List.take_append, show (i + 1) * 4 - (encN c).length = i * 4 by show (i + 1) * 4 - 4 = _; omega, flatN_take l i, List.take_of_length_le (by show 4 ≤ _; omega)]
theorem flatN_drop : ∀ (l : List NC) (i : Nat), (flatN l).drop (i * 4) = flatN (l.drop i)
  | [], i => by simp [flatN]
  | c :: l, 0 => by simp [flatN]
  | c :: l, i + 1 => by
    rw [flatN_cons, List.drop_succ_cons, List.drop_append, show (i + 1) * 4 - (encN c).length = i * 4 by show (i + 1) * 4 - 4 = _; omega, flatN_drop l i, List.drop_of_length_le (by show 4 ≤ _; omega), List.nil_append]
theorem row4_cell {w : World} {B g n c : Nat} {T : TypeId} {l : List NC} (h : w.ownsRow B T 4 (.slice (some ⟨g, 0, none⟩) n c) n (flatN l)) (j : Nat) (x : NC) (hj : l[j]? = some x) :
    w.cell? ⟨g, j * 4, none⟩ = some (.int .i64 x.kind) ∧ w.cell? ⟨g, j * 4 + 1, none⟩ = some (.int .i64 x.sector) ∧ w.cell? ⟨g, j * 4 + 2, none⟩ = some (.string x.data) ∧ w.cell? ⟨g, j * 4 + 3, none⟩ = some (.int .i64 x.tag) := by
  have hh : ∀ i u, i < 4 → (encN x)[i]? = some u → w.cell? ⟨g, j * 4 + i, none⟩ = some u := fun i u hi hu => by
    have := World.ownsRow.cells h (g := g) rfl (j * 4 + i) u (by rw [flatN_get l j x hj i hi]; exact hu)
    rwa [add_plain] at this
  exact ⟨hh 0 _ (by omega) rfl, hh 1 _ (by omega) rfl, hh 2 _ (by omega) rfl, hh 3 _ (by omega) rfl⟩
theorem row4_open {w : World} {B n : Nat} {T : TypeId} {v : Value} {l : List NC} (h : w.ownsRow B T 4 v n (flatN l)) (hn : 0 < n) : ∃ g c cur, v = .slice (some ⟨g, 0, none⟩) n c ∧ B ≤ g ∧ w.heap[g]? = some (.cells cur T (0, 0)) ∧ n ≤ c ∧ c ≤ maxLen ∧ cur.size = c * 4 := by
  rcases h.2 with ⟨_, h0⟩ | ⟨g, c, cur, rfl, h1, h2, h3, h4, h5, h6⟩
  · omega
  · exact ⟨g, c, cur, rfl, h1, h2, h3, h4, h5⟩
theorem row4_take {w : World} {B n g c : Nat} {T : TypeId} {l : List NC} (h : w.ownsRow B T 4 (.slice (some ⟨g, 0, none⟩) n c) n (flatN l)) (m : Nat) (hm : m ≤ n) : w.ownsRow B T 4 (.slice (some ⟨g, 0, none⟩) m c) m (flatN (l.take m)) := by
  have := own_take h hm
  rwa [flatN_take] at this
/-- A map's entries. -/
def MEnts : List MapEntry → List (Int × NC) → Prop
  | [], [] => True
  | e :: es, x :: m => e.key = .int .i64 x.1 ∧ e.val = x.2.v ∧ MEnts es m
  | _, _ => False
/-- What a sector lasts as; one put in. -/
def lookM (f : Int) : List (Int × NC) → Option NC
  | [] => none
  | x :: m => if f = x.1 then some x.2 else lookM f m
def putM (f : Int) (c : NC) : List (Int × NC) → List (Int × NC)
  | [] => [(f, c)]
  | x :: m => if f = x.1 then (f, c) :: m else x :: putM f c m
theorem look_put (f g : Int) (c : NC) : ∀ m, lookM f (putM g c m) = if f = g then some c else lookM f m
  | [] => rfl
  | x :: m => by
    rw [putM]
    by_cases h : g = x.1
    · rw [if_pos h]
      by_cases h2 : f = g
      · rw [if_pos h2, lookM, if_pos h2]
      · rw [if_neg h2, lookM, if_neg h2, lookM, if_neg (by rw [← h]; exact h2)]
    · rw [if_neg h, lookM]
      by_cases h2 : f = x.1
      · rw [if_pos h2, if_neg (by rw [h2]; exact fun e => h e.symm), lookM, if_pos h2]
      · rw [if_neg h2, look_put f g c m]
        by_cases h3 : f = g
        · rw [if_pos h3, if_pos h3]
        · rw [if_neg h3, if_neg h3, lookM, if_neg h2]
theorem MEnts.snoc {f : Int} {c : NC} {cl : Nat} : ∀ {es : List MapEntry} {m : List (Int × NC)}, MEnts es m → lookM f m = none → MEnts (es ++ [{ key := .int .i64 f, val := c.v, born := cl }]) (putM f c m)
  | [], [], _, _ => ⟨rfl, rfl, trivial⟩
  | a :: es, x :: m, h, hn => by
    rw [lookM] at hn
    split at hn
    · cases hn
    · rename_i hc
      rw [putM, if_neg hc]
      exact ⟨h.1, h.2.1, MEnts.snoc h.2.2 hn⟩
  | [], _ :: _, h, _ => h.elim
  | _ :: _, [], h, _ => h.elim
theorem same_key (f k : Int) : Instr.sameNow (.int .i64) (.int .i64 f) (.int .i64 k) = some (f == k) := by
  show (if IntKind.i64 = IntKind.i64 then some (f == k) else none) = some (f == k)
  rw [if_pos rfl]
theorem findN_none {f : Int} : ∀ {es : List MapEntry} {m : List (Int × NC)} (i : Nat), MEnts es m → lookM f m = none → Instr.findNow (.int .i64) (.int .i64 f) es i = some none
  | [], [], _, _, _ => rfl
  | a :: es, x :: m, i, h, hn => by
    rw [lookM] at hn
    split at hn
    · cases hn
    · rename_i hc
      rw [Instr.findNow, h.1, same_key, beq_eq_false_iff_ne.2 hc]
      exact findN_none (i + 1) h.2.2 hn
  | [], _ :: _, _, h, _ => h.elim
  | _ :: _, [], _, h, _ => h.elim
theorem findN_some {f : Int} {c : NC} : ∀ {es : List MapEntry} {m : List (Int × NC)} (i : Nat), MEnts es m → lookM f m = some c →
    ∃ j, Instr.findNow (.int .i64) (.int .i64 f) es i = some (some (i + j, c.v)) ∧ (∃ a, es[j]? = some a ∧ a.key = .int .i64 f) ∧ ∀ c2 : NC, MEnts (es.modify j fun a => { a with key := .int .i64 f, val := c2.v }) (putM f c2 m)
  | [], [], _, _, hn => by cases hn
  | a :: es, x :: m, i, h, hn => by
    rw [lookM] at hn
    by_cases hc : f = x.1
    · rw [if_pos hc] at hn
      obtain rfl := Option.some.inj hn
      refine ⟨0, by rw [Instr.findNow, h.1, same_key, beq_iff_eq.2 hc, h.2.1]; rfl, ⟨a, rfl, by rw [h.1, hc]⟩, fun c2 => ?_⟩
      rw [putM, if_pos hc]
      exact ⟨rfl, rfl, h.2.2⟩
    · rw [if_neg hc] at hn
      obtain ⟨j, h1, h2, h3⟩ := findN_some (i + 1) h.2.2 hn
      refine ⟨j + 1, by rw [Instr.findNow, h.1, same_key, beq_eq_false_iff_ne.2 hc]; rw [h1, show i + 1 + j = i + (j + 1) by omega], by simpa using h2, fun c2 => ?_⟩
      rw [putM, if_neg hc]
      exact ⟨h.1, h.2.1, h3 c2⟩
  | [], _ :: _, _, h, _ => h.elim
  | _ :: _, [], _, h, _ => h.elim
section
variable {w : World}
theorem n_check (em : Bool) (f : Int) : (Instr.checkKey em 10000 3 (.int .i64 f)).run Tryd.prog w = .ok () w := by
  rw [show (10000 : Nat) = 9999 + 1 from rfl, Instr.checkKey]
  simp [run_underlying Tryd.underlying3, Result.andThen]
theorem n_find (f : Int) (es : List MapEntry) {r : Option (Nat × Value)} (h : Instr.findNow (.int .i64) (.int .i64 f) es 0 = some r) : (Instr.findKey 3 (.int .i64 f) es).run Tryd.prog w = .ok r w := by
  simp [Instr.findKey, run_underlying Tryd.underlying3, h, Result.andThen]
def zeroN : NC := ⟨0, 0, ⟨#[]⟩, 0⟩
theorem n_zero : (zeroValue 38).run Tryd.prog w = .ok zeroN.v w := by kernel_rfl
theorem n_look_none {mb cl : Nat} {es : Array MapEntry} (hb : w.heap[mb]? = some (.map es cl)) (f : Int) (h : Instr.findNow (.int .i64) (.int .i64 f) es.toList 0 = some none) : (Instr.lookup 76 (.map (some mb)) (.int .i64 f) true).run Tryd.prog w = .ok (.tuple #[zeroN.v, .bool false]) w := by
  simp [Instr.lookup, run_underlying Tryd.underlying76, MapKept.run_getObj_map hb, n_check, n_find f _ h, n_zero, Result.andThen]
  rfl
theorem n_look_some {mb cl j : Nat} {es : Array MapEntry} {v : Value} (hb : w.heap[mb]? = some (.map es cl)) (f : Int) (h : Instr.findNow (.int .i64) (.int .i64 f) es.toList 0 = some (some (j, v))) : (Instr.lookup 76 (.map (some mb)) (.int .i64 f) true).run Tryd.prog w = .ok (.tuple #[v, .bool true]) w := by
  simp [Instr.lookup, run_underlying Tryd.underlying76, MapKept.run_getObj_map hb, n_check, n_find f _ h, Result.andThen]
theorem n_put_none {mb cl : Nat} {es : Array MapEntry} (hb : w.heap[mb]? = some (.map es cl)) (f : Int) (v : Value) (h : Instr.findNow (.int .i64) (.int .i64 f) es.toList 0 = some none) : (Instr.mapUpdate 76 (.map (some mb)) (.int .i64 f) v).run Tryd.prog w = .ok () (ChangeMaps.setBlock w mb (.map (es.push { key := .int .i64 f, val := v, born := cl }) (cl + 1))) := by
  simp [Instr.mapUpdate, run_underlying Tryd.underlying76, MapKept.run_getObj_map hb, n_check, n_find f _ h, MapKept.run_setObj_map _ hb, Result.andThen, ChangeMaps.setBlock]
theorem n_put_some {mb cl j : Nat} {es : Array MapEntry} {v0 : Value} {a : MapEntry} (hb : w.heap[mb]? = some (.map es cl)) (f : Int) (v : Value) (h : Instr.findNow (.int .i64) (.int .i64 f) es.toList 0 = some (some (j, v0))) (ha : es[j]? = some a) (hk : a.key = .int .i64 f) : (Instr.mapUpdate 76 (.map (some mb)) (.int .i64 f) v).run Tryd.prog w = .ok () (ChangeMaps.setBlock w mb (.map (es.modify j fun e => { e with key := .int .i64 f, val := v }) cl)) := by
  have hs : Instr.sameBits 10000 (.int .i64 f) (.int .i64 f) = true := by simp [Instr.sameBits]
  simp [Instr.mapUpdate, run_underlying Tryd.underlying76, MapKept.run_getObj_map hb, n_check, n_find f _ h, MapKept.run_setObj_map _ hb, Result.andThen, ChangeMaps.setBlock, ha, hk, Instr.keyThatStays, hs]
end
/-- What a device is: as the document's, but for how it is kept. -/
structure Dev where
  sectors : Int
  depth : Int
  last : List (Int × NC)
  cache : List NC
  queue : List NC
  down : Bool
  fail : Int
  keep : List Int
  c0 : Int
  c1 : Int
  c2 : Int
  c3 : Int
  c4 : Int
/-- Where a device lies: its own block, its map's, its rows. -/
structure DevP where
  d : Nat
  mb : Nat
  cv : Value
  qv : Value
  kv : Value
def DevAt (B : Nat) (w : World) (P : DevP) (D : Dev) : Prop :=
  B ≤ P.d ∧ B ≤ P.mb ∧ P.d ≠ P.mb ∧ w.heap[P.d]? = some (.cells #[.int .i64 D.sectors, .int .i64 D.depth, .map (some P.mb), P.cv, P.qv, .bool D.down, .int .i64 D.fail, P.kv, .int .i64 D.c0, .int .i64 D.c1, .int .i64 D.c2, .int .i64 D.c3, .int .i64 D.c4] 78 (0, 0))
  ∧ (∃ es cl, w.heap[P.mb]? = some (.map es cl) ∧ MEnts es.toList D.last)
  ∧ w.ownsRow B 38 4 P.cv D.cache.length (flatN D.cache)
  ∧ w.ownsRow B 38 4 P.qv D.queue.length (flatN D.queue)
  ∧ w.ownsRow B 3 1 P.kv D.keep.length (D.keep.map (.int .i64))
  ∧ (P.cv.ownBlock = none ∨ P.cv.ownBlock ≠ P.qv.ownBlock)
/-- A block is the device's. -/
def DevP.has (P : DevP) (k : Nat) : Prop := k = P.d ∨ k = P.mb ∨ P.cv.ownBlock = some k ∨ P.qv.ownBlock = some k
/-- What is none of the device's stays; its blocks are its elder ones, or new. -/
structure DKeep (P P' : DevP) (w w' : World) : Prop where
  os : w'.os = w.os
  tape : w'.tape = w.tape
  output : w'.output = w.output
  size : w.heap.size ≤ w'.heap.size
  d : P'.d = P.d
  block : ∀ k, k < w.heap.size → ¬ P.has k → w'.heap[k]? = w.heap[k]?
  foot : ∀ k, P'.has k → P.has k ∨ w.heap.size ≤ k


end Go.Proofs.YtofiedgnnpednaaDoor.VNvmeRefuses
