/- Contracts of functions of this seat: each call comes to what its Lean function computes; no condition beyond what each theorem states. Printed by a program of this session's own laid over the kit's printer. -/
import Derived.Lib.SliceRun
import Derived.Test.YtofiedgnnpednaaDoorVNvmeRefusesx0
import Derived.Test.YtofiedgnnpednaaDoorVNvmeRefusesx1
import Derived.Test.YtofiedgnnpednaaDoorVNvmeRefusesx3
namespace Go.Proofs.YtofiedgnnpednaaDoor.VNvmeRefuses
open Go.RowKit Go.Proofs.YtofiedgnnpednaaDoorW.PrintWords Go.Proofs.YtofiedgnnpednaaDoorW.PrintLast Go.Proofs.YtofiedgnnpednaaDoorW.PrintMore
attribute [local go_sem] max2_int min2_int max_two min_two max_three min_three max_four min_four   -- for this text's walks alone
set_option linter.unusedVariables false
set_option linter.unusedSimpArgs false

-- @GIVEN lib_nvrow
theorem row4_of_cells {w : World} {B g cap : Nat} {cur : Array Value} {l : List NC} (hB : B ≤ g) (hg : w.heap[g]? = some (.cells cur 38 (0, 0))) (hn : l.length ≤ cap) (hc : cap ≤ maxLen) (hs : cur.size = cap * 4)
    (hcell : ∀ j c, l[j]? = some c → ∀ r u, r < 4 → (encN c)[r]? = some u → w.cell? ⟨g, j * 4 + r, none⟩ = some u) : w.ownsRow B 38 4 (.slice (some ⟨g, 0, none⟩) l.length cap) l.length (flatN l) := by
  refine ⟨flatN_length l, .inr ⟨g, cap, cur, rfl, hB, hg, hn, hc, hs, ?_⟩⟩
  apply List.ext_getElem?
  intro q
  by_cases hq : q < l.length * 4
  · have h1 : q / 4 < l.length := by omega
    have e : q = q / 4 * 4 + q % 4 := by omega
    have hl : l[q / 4]? = some l[q / 4] := List.getElem?_eq_getElem h1
    have h2 := flatN_get l (q / 4) l[q / 4] hl (q % 4) (by omega)
    rw [← e] at h2
    have hlt : q % 4 < (encN l[q / 4]).length := by show _ < 4; omega
    rw [List.getElem?_eq_getElem hlt] at h2
    have h3 := hcell _ _ hl (q % 4) _ (by omega) (List.getElem?_eq_getElem hlt)
    rw [← e, blk_cell hg q] at h3
    rw [List.getElem?_take, if_pos hq, h2, Array.getElem?_toList]
    exact h3
  · rw [List.getElem?_eq_none (by rw [List.length_take]; omega), List.getElem?_eq_none (by rw [flatN_length]; omega)]
theorem row4_cells {w : World} {B g n c : Nat} {T : TypeId} {l : List NC} (h : w.ownsRow B T 4 (.slice (some ⟨g, 0, none⟩) n c) n (flatN l)) (j : Nat) (x : NC) (hj : l[j]? = some x) (r : Nat) (u : Value) (hr : r < 4) (hu : (encN x)[r]? = some u) : w.cell? ⟨g, j * 4 + r, none⟩ = some u := by
  have := World.ownsRow.cells h (g := g) rfl (j * 4 + r) u (by rw [flatN_get l j x hj r hr]; exact hu)
  rwa [add_plain] at this
/-- One element of a row stored. -/
theorem row4_set {w : World} {B g n c : Nat} {l : List NC} (h : w.ownsRow B 38 4 (.slice (some ⟨g, 0, none⟩) n c) n (flatN l)) (hn : l.length = n) (i : Nat) (hi : i < n) (x : NC) :
    ((((w.setCell ⟨g, i * 4, none⟩ (.int .i64 x.kind)).setCell ⟨g, i * 4 + 1, none⟩ (.int .i64 x.sector)).setCell ⟨g, i * 4 + 2, none⟩ (.string x.data)).setCell ⟨g, i * 4 + 3, none⟩ (.int .i64 x.tag)).ownsRow B 38 4 (.slice (some ⟨g, 0, none⟩) n c) n (flatN (l.set i x)) := by
  subst hn
  obtain ⟨g', c', cur, e, hB, hg, hnc, hcm, hcs⟩ := row4_open h (by omega)
  cases e
  have hg' := blk_putc (blk_putc (blk_putc (blk_putc hg (i * 4) (.int .i64 x.kind)) (i * 4 + 1) (.int .i64 x.sector)) (i * 4 + 2) (.string x.data)) (i * 4 + 3) (.int .i64 x.tag)
  have := row4_of_cells (l := l.set i x) hB hg' (by simpa using hnc) hcm (by simpa using hcs) (fun j y hj r u hr hu => by
    rw [blk_cell hg']
    by_cases hji : j = i
    · subst hji
      obtain rfl : x = y := by simpa [List.getElem?_set, hi] using hj
      have hsz : j * 4 + 3 < cur.size := by omega
      rcases (by omega : r = 0 ∨ r = 1 ∨ r = 2 ∨ r = 3) with rfl | rfl | rfl | rfl <;> simp [encN] at hu <;> subst hu <;> simp [Array.getElem?_setIfInBounds] <;> omega
    · have hj' : l[j]? = some y := by rwa [List.getElem?_set_ne (fun e => hji e.symm)] at hj
      have h0 := row4_cells h j y hj' r u hr hu
      rw [blk_cell hg] at h0
      rw [Array.getElem?_setIfInBounds_ne (by omega), Array.getElem?_setIfInBounds_ne (by omega), Array.getElem?_setIfInBounds_ne (by omega), Array.getElem?_setIfInBounds_ne (by omega)]
      exact h0)
  simpa using this
theorem setCells_keep {g : Nat} {T : TypeId} : ∀ (vs : List Value) (o : Nat) (w w0 : World) (cs : Array Value), w.heap[g]? = some (.cells cs T (0, 0)) → w0.grownBy w (some g) → (∃ cs', (w.setCells g o vs).heap[g]? = some (.cells cs' T (0, 0)) ∧ cs'.size = cs.size ∧ ∀ q, q < o → cs'[q]? = cs[q]?) ∧ w0.grownBy (w.setCells g o vs) (some g)
  | [], _, _, _, cs, h, hg => ⟨⟨cs, h, rfl, fun _ _ => rfl⟩, hg⟩
  | v :: vs, o, w, w0, cs, h, hg => by
    obtain ⟨⟨cs', h1, h2, h3⟩, h4⟩ := setCells_keep vs (o + 1) (w.setCell ⟨g, o, none⟩ v) w0 _ (blk_putc h o v) (gr_put hg o v)
    exact ⟨⟨cs', h1, h2.trans (by simp), fun q hq => (h3 q (by omega)).trans (Array.getElem?_setIfInBounds_ne (by omega))⟩, h4⟩
theorem zero4_one (k : Nat) : ∀ u ∈ (Builtin.zeroCells zeroN.v.cells k).toList, u.oneCell' = true := by
  intro u hu
  simp only [Builtin.zeroCells, Array.toList_map, List.mem_map] at hu
  obtain ⟨i, _, rfl⟩ := hu
  show ((#[Value.int .i64 0, .int .i64 0, .string ⟨#[]⟩, .int .i64 0] : Array Value)[i % 4]!).oneCell' = true
  have h4 : i % 4 < 4 := Nat.mod_lt _ (by decide)
  rcases (by omega : i % 4 = 0 ∨ i % 4 = 1 ∨ i % 4 = 2 ∨ i % 4 = 3) with e | e | e | e <;> rw [e] <;> rfl
theorem run_clear4 {w : World} {B g m k c c' : Nat} {l : List NC} (h : w.ownsRow B 38 4 (.slice (some ⟨g, 0, none⟩) m c) m (flatN l)) (hk : 0 < k) (hkc : m + k ≤ c) (ty : TypeId) :
    ∃ w', (Builtin.clear_ #[64] ty #[.slice (some ⟨g, m * 4, none⟩) k c']).run Tryd.prog w = .ok (.tuple #[]) w' ∧ w'.ownsRow B 38 4 (.slice (some ⟨g, 0, none⟩) m c) m (flatN l) ∧ w.grownBy w' (some g) := by
  obtain ⟨h0, hh⟩ := h
  rcases hh with ⟨e, _⟩ | ⟨g', c2, cur, e, hB, hg, hnc, hcm, hcs, ht⟩
  · cases e
  cases e
  obtain ⟨L, hL⟩ : ∃ L, L = (Builtin.zeroCells zeroN.v.cells k).toList := ⟨_, rfl⟩
  have hLl : L.length = k * 4 := by rw [hL]; simp [Builtin.zeroCells, zeroN, NC.v, Value.cells]
  have h1 : ∀ u ∈ L, u.oneCell' = true := by rw [hL]; exact zero4_one k
  have hst := run_storeCells_cells (P := Tryd.prog) g (m * 4) L 0 w (fun j hj => by rw [blk_cell hg]; simp; omega) (fun j hj => blk_frozen hg _) h1
  simp only [Nat.add_zero] at hst
  obtain ⟨⟨cs', k1, k2, k3⟩, k4⟩ := setCells_keep L (m * 4) w w cur hg (World.grownBy.refl _ _)
  refine ⟨w.setCells g (m * 4) L, ?_, ⟨h0, .inr ⟨g, c, cs', rfl, hB, k1, hnc, hcm, k2.trans hcs, ?_⟩⟩, k4⟩
  · obtain ⟨k', rfl⟩ : ∃ k', k = k' + 1 := ⟨k - 1, by omega⟩
    have hL2 : (Builtin.zeroCells (Value.agg #[.int .i64 0, .int .i64 0, .string ⟨#[]⟩, .int .i64 0]).cells (k' + 1)).toList = L := hL.symm
    simp [Builtin.clear_, run_underlying Tryd.underlying64, n_zero, hL2, hst, Result.andThen]
  · rw [← ht]
    apply List.ext_getElem?
    intro q
    rw [List.getElem?_take, List.getElem?_take]
    split
    · rename_i hq
      rw [Array.getElem?_toList, Array.getElem?_toList]
      exact k3 q hq
    · rfl
/-- A part of a row moved down over one element: what slices.Delete's append does. -/
theorem run_del4 {w : World} {B g i c : Nat} {l : List NC} (h : w.ownsRow B 38 4 (.slice (some ⟨g, 0, none⟩) l.length c) l.length (flatN l)) (hi : i < l.length) (A : Addr) (hA : (if c = i + 1 then some (⟨g, 0, none⟩ : Addr) else some ⟨g, (i + 1) * 4, none⟩) = some A) (c' : Nat) (ty : TypeId) :
    ∃ w', (Builtin.append_ #[64, 64] ty #[.slice (some ⟨g, 0, none⟩) i c, .slice (some A) (l.length - (i + 1)) c']).run Tryd.prog w = .ok (.slice (some ⟨g, 0, none⟩) (l.length - 1) c) w' ∧ w'.ownsRow B 38 4 (.slice (some ⟨g, 0, none⟩) (l.length - 1) c) (l.length - 1) (flatN (l.eraseIdx i)) ∧ w.grownBy w' (some g) := by
  obtain ⟨g', c2, cur, e, hB, hg, hnc, hcm, hcs⟩ := row4_open h (by omega)
  cases e
  obtain ⟨i0, hi0, hz0, hz1, hz2⟩ := info_parts (P := Tryd.prog) (e := 38) (z := zeroN.v) (size := 4) (bytes := 40) (by kernel_rfl)
  have hn : (flatN (l.drop (i + 1))).length = (l.length - (i + 1)) * 4 := by rw [flatN_length, List.length_drop]
  obtain ⟨w', hr, ho, hgr⟩ := run_append_own_spare (P := Tryd.prog) (w := w) B 64 ty 38 i0 4 Tryd.underlying64 hi0 hz1 g i c (flatN (l.take i)) (row4_take h i (by omega)) A (l.length - (i + 1)) c' (flatN (l.drop (i + 1))) hn
    (fun j u hu => by
      by_cases hc : c = i + 1
      · exfalso
        have := (List.getElem?_eq_some_iff.1 hu).1
        rw [hn] at this
        omega
      · rw [if_neg hc] at hA
        obtain rfl := Option.some.inj hA
        have e1 : (⟨g, (i + 1) * 4, none⟩ : Addr).add j = ⟨g, (i + 1) * 4 + j, none⟩ := by unfold Addr.add; split <;> simp_all
        rw [e1]
        have := World.ownsRow.cells h (g := g) rfl ((i + 1) * 4 + j) u (by rw [← flatN_drop, List.getElem?_drop] at hu; exact hu)
        rwa [add_plain] at this)
    (flatN_oneCell _) (by omega)
  rw [show i + (l.length - (i + 1)) = l.length - 1 by omega, ← flatN_append] at ho
  rw [show i + (l.length - (i + 1)) = l.length - 1 by omega] at hr
  refine ⟨w', hr, ?_, hgr⟩
  rw [List.eraseIdx_eq_take_drop_succ]
  exact ho
theorem row4_frozen {w : World} {B g n c : Nat} {T : TypeId} {l : List NC} (h : w.ownsRow B T 4 (.slice (some ⟨g, 0, none⟩) n c) n (flatN l)) (q : Nat) : w.frozen? ⟨g, q, none⟩ = false := by
  rcases h.2 with ⟨e, _⟩ | ⟨g', c2, cur, e, _, hg, _⟩
  · cases e
  · cases e
    exact blk_frozen hg q


end Go.Proofs.YtofiedgnnpednaaDoor.VNvmeRefuses
