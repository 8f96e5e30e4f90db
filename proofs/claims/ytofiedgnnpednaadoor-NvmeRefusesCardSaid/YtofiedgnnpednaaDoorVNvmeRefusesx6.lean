/- Contracts of functions of this seat: each call comes to what its Lean function computes; no condition beyond what each theorem states. Printed by a program of this session's own laid over the kit's printer. -/
import Derived.Test.YtofiedgnnpednaaDoorVNvmeRefusesx0
import Derived.Test.YtofiedgnnpednaaDoorVNvmeRefusesx1
import Derived.Test.YtofiedgnnpednaaDoorVNvmeRefusesx3
namespace Go.Proofs.YtofiedgnnpednaaDoor.VNvmeRefuses
open Go.RowKit Go.Proofs.YtofiedgnnpednaaDoorW.PrintWords Go.Proofs.YtofiedgnnpednaaDoorW.PrintLast Go.Proofs.YtofiedgnnpednaaDoorW.PrintMore
attribute [local go_sem] max2_int min2_int max_two min_two max_three min_three max_four min_four   -- for this text's walks alone
set_option linter.unusedVariables false
set_option linter.unusedSimpArgs false

-- @GIVEN lib_nvapp
/-- A row of commands stays across a growth that is not its own. -/
theorem own_grown {w w' : World} {B B' n s : Nat} {T : TypeId} {v : Value} {xs : List Value} (h : w.ownsRow B T s v n xs) {row : Option Nat} (hg : w.grownBy w' row) (hne : v.ownBlock = none ∨ v.ownBlock ≠ row) : w'.ownsRow B T s v n xs := h.kept hg hne
/-- A command joins the queue: behind the append, and behind the store. -/
theorem dev_appq {B : Nat} {w : World} {P : DevP} {D : Dev} (h : DevAt B w P D) (hB : B ≤ w.heap.size) (hl : D.queue.length < 1000000000) {b : Nat} {c : NC} (hb : w.heap[b]? = some (.cells #[.int .i64 c.kind, .int .i64 c.sector, .string c.data, .int .i64 c.tag] 38 (0, 0))) (m : Nat) :
    ∃ g n w', (Builtin.append_ #[64, 64] 64 #[P.qv, .slice (some ⟨b, 0, none⟩) 1 m]).run Tryd.prog w = .ok (.slice (some ⟨g, 0, none⟩) (D.queue ++ [c]).length n) w'
      ∧ w'.heap[P.d]? = some (.cells (D.cells P) 78 (0, 0))
      ∧ DevAt B (w'.setCell ⟨P.d, 4, none⟩ (.slice (some ⟨g, 0, none⟩) (D.queue ++ [c]).length n)) ⟨P.d, P.mb, P.cv, .slice (some ⟨g, 0, none⟩) (D.queue ++ [c]).length n, P.kv⟩ { D with queue := D.queue ++ [c] }
      ∧ DKeep P ⟨P.d, P.mb, P.cv, .slice (some ⟨g, 0, none⟩) (D.queue ++ [c]).length n, P.kv⟩ w (w'.setCell ⟨P.d, 4, none⟩ (.slice (some ⟨g, 0, none⟩) (D.queue ++ [c]).length n)) := by
  have hap := fun g hg => h.apart (g := g) hg
  have hlt := h.lt
  obtain ⟨h1, h2, h3, h4, ⟨es, cl, h5, h6⟩, h7, h8, h9, h10⟩ := h
  have hc : ∀ j u, (encN c)[j]? = some u → w.cell? ((⟨b, 0, none⟩ : Addr).add j) = some u := fun j u hu => by
    rw [add_plain]
    exact (blk_cell hb j).trans (by simpa [encN] using hu)
  obtain ⟨v', w', hr, o1, o2, o3, g, n, rfl⟩ := app_own hB h8 hl (ad := ⟨b, 0, none⟩) (c := c) (m := m) hc 64 64 Tryd.underlying64
  have hd : w'.heap[P.d]? = some (.cells (D.cells P) 78 (0, 0)) := (o2.block _ (Array.getElem?_eq_some_iff.1 h4).1 (fun e => (hap P.d (.inr e.symm)).1 rfl)).trans h4
  have hne : ∀ k, k < w.heap.size → k ≠ P.d → P.qv.ownBlock ≠ some k → (w'.setCell ⟨P.d, 4, none⟩ (.slice (some ⟨g, 0, none⟩) (D.queue ++ [c]).length n)).heap[k]? = w.heap[k]? := fun k hk h1 h2 =>
    (Below.heap_setCell w' ⟨P.d, 4, none⟩ _ k h1).trans (o2.block k hk (fun e => h2 e.symm))
  have hrow : ∀ {T : TypeId} {s n' : Nat} {v : Value} {xs : List Value}, T ≠ 78 → w.ownsRow B T s v n' xs → (v.ownBlock = none ∨ v.ownBlock ≠ P.qv.ownBlock) → (w'.setCell ⟨P.d, 4, none⟩ (.slice (some ⟨g, 0, none⟩) (D.queue ++ [c]).length n)).ownsRow B T s v n' xs := fun hT ho hn => own_same ho fun k hv => by
    obtain ⟨cur, hcur⟩ := own_kind ho hv
    refine hne k (Array.getElem?_eq_some_iff.1 hcur).1 (fun e => ?_) (fun e => hn.elim (fun e2 => by rw [e2] at hv; cases hv) (fun e2 => e2 (hv.trans e.symm)))
    rw [e, h4] at hcur
    cases hcur
    exact hT rfl
  have hg2 : ∀ k, (Value.slice (some ⟨g, 0, none⟩) (D.queue ++ [c]).length n).ownBlock = some k → k ≠ P.d := fun k hk e => (o3 k hk).elim (fun e2 => (hap k (.inr e2)).1 e) (fun e2 => by have := (hlt P.d (.inl rfl)).2; omega)
  refine ⟨g, n, w', hr, hd, ⟨h1, h2, h3, (blk_putc hd 4 _).trans rfl, ⟨es, cl, (hne _ (Array.getElem?_eq_some_iff.1 h5).1 (fun e => h3 e.symm) (fun e => (hap P.mb (.inr e)).2.1 rfl)).trans h5, h6⟩, hrow (by decide) h7 h10, ?_, hrow (by decide) h9 ?_, ?_⟩, ⟨o2.os, o2.tape, o2.output, by rw [World.size_setCell]; exact o2.size, rfl, fun k hk hn => hne k hk (fun e => hn (.inl e)) (fun e => hn (.inr (.inr (.inr e)))), ?_⟩⟩
  · exact own_same o1 fun k hk => Below.heap_setCell w' ⟨P.d, 4, none⟩ _ k (hg2 k hk)
  · by_cases e : P.kv.ownBlock = none
    · exact .inl e
    · exact .inr fun e2 => by
        obtain ⟨k, hk⟩ : ∃ k, P.kv.ownBlock = some k := Option.ne_none_iff_exists'.1 e
        exact (hap k (.inr (e2.symm.trans hk))).2.2 hk
  · by_cases e : P.cv.ownBlock = none
    · exact .inl e
    · obtain ⟨k, hk⟩ : ∃ k, P.cv.ownBlock = some k := Option.ne_none_iff_exists'.1 e
      refine .inr (fun e2 => ?_)
      rcases o3 k (e2.symm.trans hk) with e3 | e3
      · exact h10.elim (fun e4 => e e4) (fun e4 => e4 (hk.trans e3.symm))
      · have := (hlt k (.inr (.inr (.inl hk)))).2
        omega
  · rintro k (e | e | e | e)
    · exact .inl (.inl e)
    · exact .inl (.inr (.inl e))
    · exact .inl (.inr (.inr (.inl e)))
    · exact (o3 k e).imp (fun e2 => .inr (.inr (.inr e2))) id
/-- A command joins the cache: behind the append, and behind the store. -/
theorem dev_appc {B : Nat} {w : World} {P : DevP} {D : Dev} (h : DevAt B w P D) (hB : B ≤ w.heap.size) (hl : D.cache.length < 1000000000) {b : Nat} {c : NC} (hb : w.heap[b]? = some (.cells #[.int .i64 c.kind, .int .i64 c.sector, .string c.data, .int .i64 c.tag] 38 (0, 0))) (m : Nat) :
    ∃ g n w', (Builtin.append_ #[64, 64] 64 #[P.cv, .slice (some ⟨b, 0, none⟩) 1 m]).run Tryd.prog w = .ok (.slice (some ⟨g, 0, none⟩) (D.cache ++ [c]).length n) w'
      ∧ w'.heap[P.d]? = some (.cells (D.cells P) 78 (0, 0))
      ∧ DevAt B (w'.setCell ⟨P.d, 3, none⟩ (.slice (some ⟨g, 0, none⟩) (D.cache ++ [c]).length n)) ⟨P.d, P.mb, .slice (some ⟨g, 0, none⟩) (D.cache ++ [c]).length n, P.qv, P.kv⟩ { D with cache := D.cache ++ [c] }
      ∧ DKeep P ⟨P.d, P.mb, .slice (some ⟨g, 0, none⟩) (D.cache ++ [c]).length n, P.qv, P.kv⟩ w (w'.setCell ⟨P.d, 3, none⟩ (.slice (some ⟨g, 0, none⟩) (D.cache ++ [c]).length n)) := by
  have hap := fun g hg => h.apart (g := g) hg
  have hlt := h.lt
  obtain ⟨h1, h2, h3, h4, ⟨es, cl, h5, h6⟩, h7, h8, h9, h10⟩ := h
  have hc : ∀ j u, (encN c)[j]? = some u → w.cell? ((⟨b, 0, none⟩ : Addr).add j) = some u := fun j u hu => by
    rw [add_plain]
    exact (blk_cell hb j).trans (by simpa [encN] using hu)
  obtain ⟨v', w', hr, o1, o2, o3, g, n, rfl⟩ := app_own hB h7 hl (ad := ⟨b, 0, none⟩) (c := c) (m := m) hc 64 64 Tryd.underlying64
  have hd : w'.heap[P.d]? = some (.cells (D.cells P) 78 (0, 0)) := (o2.block _ (Array.getElem?_eq_some_iff.1 h4).1 (fun e => (hap P.d (.inl e.symm)).1 rfl)).trans h4
  have hne : ∀ k, k < w.heap.size → k ≠ P.d → P.cv.ownBlock ≠ some k → (w'.setCell ⟨P.d, 3, none⟩ (.slice (some ⟨g, 0, none⟩) (D.cache ++ [c]).length n)).heap[k]? = w.heap[k]? := fun k hk h1 h2 =>
    (Below.heap_setCell w' ⟨P.d, 3, none⟩ _ k h1).trans (o2.block k hk (fun e => h2 e.symm))
  have hrow : ∀ {T : TypeId} {s n' : Nat} {v : Value} {xs : List Value}, T ≠ 78 → w.ownsRow B T s v n' xs → (v.ownBlock = none ∨ v.ownBlock ≠ P.cv.ownBlock) → (w'.setCell ⟨P.d, 3, none⟩ (.slice (some ⟨g, 0, none⟩) (D.cache ++ [c]).length n)).ownsRow B T s v n' xs := fun hT ho hn => own_same ho fun k hv => by
    obtain ⟨cur, hcur⟩ := own_kind ho hv
    refine hne k (Array.getElem?_eq_some_iff.1 hcur).1 (fun e => ?_) (fun e => hn.elim (fun e2 => by rw [e2] at hv; cases hv) (fun e2 => e2 (hv.trans e.symm)))
    rw [e, h4] at hcur
    cases hcur
    exact hT rfl
  have hg2 : ∀ k, (Value.slice (some ⟨g, 0, none⟩) (D.cache ++ [c]).length n).ownBlock = some k → k ≠ P.d := fun k hk e => (o3 k hk).elim (fun e2 => (hap k (.inl e2)).1 e) (fun e2 => by have := (hlt P.d (.inl rfl)).2; omega)
  refine ⟨g, n, w', hr, hd, ⟨h1, h2, h3, (blk_putc hd 3 _).trans rfl, ⟨es, cl, (hne _ (Array.getElem?_eq_some_iff.1 h5).1 (fun e => h3 e.symm) (fun e => (hap P.mb (.inl e)).2.1 rfl)).trans h5, h6⟩, ?_, hrow (by decide) h8 ?_, hrow (by decide) h9 ?_, ?_⟩, ⟨o2.os, o2.tape, o2.output, by rw [World.size_setCell]; exact o2.size, rfl, fun k hk hn => hne k hk (fun e => hn (.inl e)) (fun e => hn (.inr (.inr (.inl e)))), ?_⟩⟩
  · exact own_same o1 fun k hk => Below.heap_setCell w' ⟨P.d, 3, none⟩ _ k (hg2 k hk)
  · by_cases e : P.qv.ownBlock = none
    · exact .inl e
    · exact h10.elim (fun e2 => .inr (by rw [e2]; exact e)) (fun e2 => .inr (fun e3 => e2 e3.symm))
  · by_cases e : P.kv.ownBlock = none
    · exact .inl e
    · exact .inr fun e2 => by
        obtain ⟨k, hk⟩ : ∃ k, P.kv.ownBlock = some k := Option.ne_none_iff_exists'.1 e
        exact (hap k (.inl (e2.symm.trans hk))).2.2 hk
  · by_cases e : P.qv.ownBlock = none
    · exact .inr (by rw [e]; exact fun e2 => by cases e2)
    · obtain ⟨k, hk⟩ : ∃ k, P.qv.ownBlock = some k := Option.ne_none_iff_exists'.1 e
      refine .inr (fun e2 => ?_)
      rcases o3 k (e2.trans hk) with e3 | e3
      · exact h10.elim (fun e4 => by rw [e4] at e3; cases e3) (fun e4 => e4 (e3.trans hk.symm))
      · have := (hlt k (.inr (.inr (.inr hk)))).2
        omega
  · rintro k (e | e | e | e)
    · exact .inl (.inl e)
    · exact .inl (.inr (.inl e))
    · exact (o3 k e).imp (fun e2 => .inr (.inr (.inl e2))) id
    · exact .inl (.inr (.inr (.inr e)))


end Go.Proofs.YtofiedgnnpednaaDoor.VNvmeRefuses
