/- Contracts of functions of this seat: each call comes to what its Lean function computes; no condition beyond what each theorem states. Printed by a program of this session's own laid over the kit's printer. -/
import Derived.Test.YtofiedgnnpednaaDoorVNvmeRefusesx0
import Derived.Test.YtofiedgnnpednaaDoorVNvmeRefusesx1
import Derived.Test.YtofiedgnnpednaaDoorVNvmeRefusesx2
import Derived.Test.YtofiedgnnpednaaDoorVNvmeRefusesx3
namespace Go.Proofs.YtofiedgnnpednaaDoor.VNvmeRefuses
open Go.RowKit Go.Proofs.YtofiedgnnpednaaDoorW.PrintWords Go.Proofs.YtofiedgnnpednaaDoorW.PrintLast Go.Proofs.YtofiedgnnpednaaDoorW.PrintMore
attribute [local go_sem] max2_int min2_int max_two min_two max_three min_three max_four min_four   -- for this text's walks alone
set_option linter.unusedVariables false
set_option linter.unusedSimpArgs false

-- @GIVEN lib_nvreq
theorem DevAt.reqd {B : Nat} {w w' : World} {P : DevP} {D : Dev} (h : DevAt B w P D) {vq : Value} {l : List NC} (o1 : w'.ownsRow B 38 4 vq l.length (flatN l)) (o2 : w.grownBy w' P.qv.ownBlock) (o3 : ∀ k, vq.ownBlock = some k → P.qv.ownBlock = some k ∨ w.heap.size ≤ k) :
    DevAt B (w'.setCell ⟨P.d, 4, none⟩ vq) ⟨P.d, P.mb, P.cv, vq, P.kv⟩ { D with queue := l } ∧ DKeep P ⟨P.d, P.mb, P.cv, vq, P.kv⟩ w (w'.setCell ⟨P.d, 4, none⟩ vq) := by
  have hap := fun g hg => h.apart (g := g) hg
  have hlt := h.lt
  obtain ⟨h1, h2, h3, h4, ⟨es, cl, h5, h6⟩, h7, h8, h9, h10⟩ := h
  have hd : w'.heap[P.d]? = some (.cells (D.cells P) 78 (0, 0)) := (o2.block _ (Array.getElem?_eq_some_iff.1 h4).1 (fun e => (hap P.d (.inr e.symm)).1 rfl)).trans h4
  have hne : ∀ k, k < w.heap.size → k ≠ P.d → P.qv.ownBlock ≠ some k → (w'.setCell ⟨P.d, 4, none⟩ vq).heap[k]? = w.heap[k]? := fun k hk h1 h2 =>
    (Below.heap_setCell w' ⟨P.d, 4, none⟩ _ k h1).trans (o2.block k hk (fun e => h2 e.symm))
  have hrow : ∀ {T : TypeId} {s n' : Nat} {v : Value} {xs : List Value}, T ≠ 78 → w.ownsRow B T s v n' xs → (v.ownBlock = none ∨ v.ownBlock ≠ P.qv.ownBlock) → (w'.setCell ⟨P.d, 4, none⟩ vq).ownsRow B T s v n' xs := fun hT ho hn => own_same ho fun k hv => by
    obtain ⟨cur, hcur⟩ := own_kind ho hv
    refine hne k (Array.getElem?_eq_some_iff.1 hcur).1 (fun e => ?_) (fun e => hn.elim (fun e2 => by rw [e2] at hv; cases hv) (fun e2 => e2 (hv.trans e.symm)))
    rw [e, h4] at hcur
    cases hcur
    exact hT rfl
  have hg2 : ∀ k, vq.ownBlock = some k → k ≠ P.d := fun k hk e => (o3 k hk).elim (fun e2 => (hap k (.inr e2)).1 e) (fun e2 => by have := (hlt P.d (.inl rfl)).2; omega)
  refine ⟨⟨h1, h2, h3, (blk_putc hd 4 _).trans rfl, ⟨es, cl, (hne _ (Array.getElem?_eq_some_iff.1 h5).1 (fun e => h3 e.symm) (fun e => (hap P.mb (.inr e)).2.1 rfl)).trans h5, h6⟩, hrow (by decide) h7 h10, ?_, hrow (by decide) h9 ?_, ?_⟩, ⟨o2.os, o2.tape, o2.output, by rw [World.size_setCell]; exact o2.size, rfl, fun k hk hn => hne k hk (fun e => hn (.inl e)) (fun e => hn (.inr (.inr (.inr e)))), ?_⟩⟩
  · exact own_same o1 fun k hk => Below.heap_setCell w' ⟨P.d, 4, none⟩ _ k (hg2 k hk)
  · by_cases e : P.kv.ownBlock = none
    · exact .inl e
    · exact .inr fun e2 => by
        obtain ⟨k, hk⟩ : ∃ k, P.kv.ownBlock = some k := Option.ne_none_iff_exists'.1 e
        exact (hap k (.inr (e2.symm.trans hk))).2.2 hk
  · by_cases e : P.cv.ownBlock = none
    · exact .inl e
    · obtain ⟨k, hk⟩ : ∃ k, P.cv.ownBlock = some k := Option.ne_none_iff_exists'.1 e
      refine .inr (fun e2 => ?_)
      rcases o3 k (e2.symm.trans hk) with e3 | e3
      · exact h10.elim (fun e4 => e e4) (fun e4 => e4 (hk.trans e3.symm))
      · have := (hlt k (.inr (.inr (.inl hk)))).2
        omega
  · rintro k (e | e | e | e)
    · exact .inl (.inl e)
    · exact .inl (.inr (.inl e))
    · exact .inl (.inr (.inr (.inl e)))
    · exact (o3 k e).imp (fun e2 => .inr (.inr (.inr e2))) id
theorem DevAt.reqc {B : Nat} {w w' : World} {P : DevP} {D : Dev} (h : DevAt B w P D) {vq : Value} {l : List NC} (o1 : w'.ownsRow B 38 4 vq l.length (flatN l)) (o2 : w.grownBy w' P.cv.ownBlock) (o3 : ∀ k, vq.ownBlock = some k → P.cv.ownBlock = some k ∨ w.heap.size ≤ k) :
    DevAt B (w'.setCell ⟨P.d, 3, none⟩ vq) ⟨P.d, P.mb, vq, P.qv, P.kv⟩ { D with cache := l } ∧ DKeep P ⟨P.d, P.mb, vq, P.qv, P.kv⟩ w (w'.setCell ⟨P.d, 3, none⟩ vq) := by
  have hap := fun g hg => h.apart (g := g) hg
  have hlt := h.lt
  obtain ⟨h1, h2, h3, h4, ⟨es, cl, h5, h6⟩, h7, h8, h9, h10⟩ := h
  have hd : w'.heap[P.d]? = some (.cells (D.cells P) 78 (0, 0)) := (o2.block _ (Array.getElem?_eq_some_iff.1 h4).1 (fun e => (hap P.d (.inl e.symm)).1 rfl)).trans h4
  have hne : ∀ k, k < w.heap.size → k ≠ P.d → P.cv.ownBlock ≠ some k → (w'.setCell ⟨P.d, 3, none⟩ vq).heap[k]? = w.heap[k]? := fun k hk h1 h2 =>
    (Below.heap_setCell w' ⟨P.d, 3, none⟩ _ k h1).trans (o2.block k hk (fun e => h2 e.symm))
  have hrow : ∀ {T : TypeId} {s n' : Nat} {v : Value} {xs : List Value}, T ≠ 78 → w.ownsRow B T s v n' xs → (v.ownBlock = none ∨ v.ownBlock ≠ P.cv.ownBlock) → (w'.setCell ⟨P.d, 3, none⟩ vq).ownsRow B T s v n' xs := fun hT ho hn => own_same ho fun k hv => by
    obtain ⟨cur, hcur⟩ := own_kind ho hv
    refine hne k (Array.getElem?_eq_some_iff.1 hcur).1 (fun e => ?_) (fun e => hn.elim (fun e2 => by rw [e2] at hv; cases hv) (fun e2 => e2 (hv.trans e.symm)))
    rw [e, h4] at hcur
    cases hcur
    exact hT rfl
  have hg2 : ∀ k, vq.ownBlock = some k → k ≠ P.d := fun k hk e => (o3 k hk).elim (fun e2 => (hap k (.inl e2)).1 e) (fun e2 => by have := (hlt P.d (.inl rfl)).2; omega)
  refine ⟨⟨h1, h2, h3, (blk_putc hd 3 _).trans rfl, ⟨es, cl, (hne _ (Array.getElem?_eq_some_iff.1 h5).1 (fun e => h3 e.symm) (fun e => (hap P.mb (.inl e)).2.1 rfl)).trans h5, h6⟩, ?_, hrow (by decide) h8 ?_, hrow (by decide) h9 ?_, ?_⟩, ⟨o2.os, o2.tape, o2.output, by rw [World.size_setCell]; exact o2.size, rfl, fun k hk hn => hne k hk (fun e => hn (.inl e)) (fun e => hn (.inr (.inr (.inl e)))), ?_⟩⟩
  · exact own_same o1 fun k hk => Below.heap_setCell w' ⟨P.d, 3, none⟩ _ k (hg2 k hk)
  · by_cases e : P.qv.ownBlock = none
    · exact .inl e
    · exact h10.elim (fun e2 => .inr (by rw [e2]; exact e)) (fun e2 => .inr (fun e3 => e2 e3.symm))
  · by_cases e : P.kv.ownBlock = none
    · exact .inl e
    · exact .inr fun e2 => by
        obtain ⟨k, hk⟩ : ∃ k, P.kv.ownBlock = some k := Option.ne_none_iff_exists'.1 e
        exact (hap k (.inl (e2.symm.trans hk))).2.2 hk
  · by_cases e : P.qv.ownBlock = none
    · by_cases e2 : vq.ownBlock = none
      · exact .inl e2
      · exact .inr (by rw [e]; exact e2)
    · obtain ⟨k, hk⟩ : ∃ k, P.qv.ownBlock = some k := Option.ne_none_iff_exists'.1 e
      refine .inr (fun e2 => ?_)
      rcases o3 k (e2.trans hk) with e3 | e3
      · exact h10.elim (fun e4 => by rw [e4] at e3; cases e3) (fun e4 => e4 (e3.trans hk.symm))
      · have := (hlt k (.inr (.inr (.inr hk)))).2
        omega
  · rintro k (e | e | e | e)
    · exact .inl (.inl e)
    · exact .inl (.inr (.inl e))
    · exact (o3 k e).imp (fun e2 => .inr (.inr (.inl e2))) id
    · exact .inl (.inr (.inr (.inr e)))
theorem zero4_cells : (zeroN.v).cells = #[.int .i64 0, .int .i64 0, .string ⟨#[]⟩, .int .i64 0] := rfl
/-- A device and two boxes of Complete's own: the result, the command. -/
structure CAt (B : Nat) (w : World) (P0 : DevP) (W : World) (P : DevP) (D : Dev) (b0 b6 : Nat) (c : NC) : Prop where
  dev : DevAt B W P D
  keep : DKeep P0 P w W
  res : W.heap[b0]? = some (.cells #[.int .i64 0, .int .i64 0, .string ⟨#[]⟩, .int .i64 0] 38 (0, 0))
  box : W.heap[b6]? = some (.cells #[.int .i64 c.kind, .int .i64 c.sector, .string c.data, .int .i64 c.tag] 38 (0, 0))
  n0 : ¬ P.has b0
  n6 : ¬ P.has b6
  k0 : P.kv.ownBlock ≠ some b0
  k6 : P.kv.ownBlock ≠ some b6
  ne : b0 ≠ b6
  s0 : w.heap.size ≤ b0
  s6 : w.heap.size ≤ b6
  sB : B ≤ w.heap.size
theorem CAt.size {B : Nat} {w W : World} {P0 P : DevP} {D : Dev} {b0 b6 : Nat} {c : NC} (h : CAt B w P0 W P D b0 b6 c) : B ≤ W.heap.size := Nat.le_trans h.sB h.keep.size
theorem CAt.step {B : Nat} {w W W' : World} {P0 P P' : DevP} {D D' : Dev} {b0 b6 : Nat} {c : NC} (h : CAt B w P0 W P D b0 b6 c) (hd : DevAt B W' P' D') (hk : DKeep P P' W W') (hkv : P'.kv = P.kv) : CAt B w P0 W' P' D' b0 b6 c :=
  ⟨hd, h.keep.trans hk, (hk.block b0 (Array.getElem?_eq_some_iff.1 h.res).1 h.n0).trans h.res, (hk.block b6 (Array.getElem?_eq_some_iff.1 h.box).1 h.n6).trans h.box, hk.not (Array.getElem?_eq_some_iff.1 h.res).1 h.n0, hk.not (Array.getElem?_eq_some_iff.1 h.box).1 h.n6, by rw [hkv]; exact h.k0, by rw [hkv]; exact h.k6, h.ne, h.s0, h.s6, h.sB⟩
theorem CAt.below {B : Nat} {w W W' : World} {P0 P : DevP} {D : Dev} {b0 b6 : Nat} {c : NC} (h : CAt B w P0 W P D b0 b6 c) (hb : Below W.heap.size W W') : CAt B w P0 W' P D b0 b6 c := h.step (h.dev.below hb) (dkeep_of hb P) rfl
theorem CAt.made {B : Nat} {w w1 : World} {P0 P : DevP} {D : Dev} {b0 : Nat} (hB : B ≤ w.heap.size) (hd : DevAt B w1 P D) (hk : DKeep P0 P w w1) (hr : w1.heap[b0]? = some (.cells #[.int .i64 0, .int .i64 0, .string ⟨#[]⟩, .int .i64 0] 38 (0, 0))) (h0 : ¬ P.has b0) (k0 : P.kv.ownBlock ≠ some b0) (hs : w.heap.size ≤ b0) (c : NC) :
    CAt B w P0 (w1.alloc (.cells #[.int .i64 c.kind, .int .i64 c.sector, .string c.data, .int .i64 c.tag] 38)) P D b0 w1.heap.size c :=
  ⟨hd.alloc _, hk.trans (dkeep_of (below_alloc (Below.refl _ _) _) _), blk_alloc hr _, heap_alloc_new w1 _, h0, fun e => Nat.lt_irrefl _ (hd.lt _ e).2, k0, fun e => Nat.lt_irrefl _ (hd.2.2.2.2.2.2.2.1.lt _ e).2, Nat.ne_of_lt (Array.getElem?_eq_some_iff.1 hr).1, hs, hk.size, hB⟩
/-- A store into a box. -/
theorem DevAt.setOther {B : Nat} {W : World} {P : DevP} {D : Dev} (h : DevAt B W P D) {b : Nat} (hn : ¬ P.has b) (hk : P.kv.ownBlock ≠ some b) (i : Nat) (v : Value) : DevAt B (W.setCell ⟨b, i, none⟩ v) P D :=
  h.kept fun k hp => Below.heap_setCell W ⟨b, i, none⟩ v k (fun e => by subst e; exact hp.elim hn hk)
theorem DKeep.setNew {P P' : DevP} {w W : World} (h : DKeep P P' w W) {b : Nat} (hb : w.heap.size ≤ b) (i : Nat) (v : Value) : DKeep P P' w (W.setCell ⟨b, i, none⟩ v) :=
  ⟨h.os, h.tape, h.output, by rw [World.size_setCell]; exact h.size, h.d, fun k hk hn => (Below.heap_setCell W ⟨b, i, none⟩ v k (by show k ≠ b; omega)).trans (h.block k hk hn), h.foot⟩
theorem CAt.data {B : Nat} {w W : World} {P0 P : DevP} {D : Dev} {b0 b6 : Nat} {c : NC} (h : CAt B w P0 W P D b0 b6 c) (d : ByteArray) : CAt B w P0 (W.setCell ⟨b6, 2, none⟩ (.string d)) P D b0 b6 { c with data := d } :=
  ⟨h.dev.setOther h.n6 h.k6 2 _, h.keep.setNew h.s6 2 _, (Below.heap_setCell W ⟨b6, 2, none⟩ _ b0 h.ne).trans h.res, blk_putc h.box 2 _, h.n0, h.n6, h.k0, h.k6, h.ne, h.s0, h.s6, h.sB⟩
theorem DevAt.kvne {B : Nat} {W : World} {P : DevP} {D : Dev} (h : DevAt B W P D) {b : Nat} {cs : Array Value} (hb : W.heap[b]? = some (.cells cs 38 (0, 0))) : P.kv.ownBlock ≠ some b := fun e => by
  obtain ⟨cur, hc⟩ := own_kind h.2.2.2.2.2.2.2.1 e
  rw [hb] at hc
  cases hc
theorem tick_queue (D : Dev) : D.tick.queue = D.queue := by unfold Dev.tick; split <;> rfl
theorem tick_cache (D : Dev) : D.tick.cache = D.cache := by unfold Dev.tick; split <;> rfl
theorem DevAt.bumped {B : Nat} {w : World} {P : DevP} {D : Dev} (h : DevAt B w P D) :
    (DevAt B (w.setCell ⟨P.d, 9, none⟩ (.int .i64 (wrap64 (D.c1 + 1)))) P (D.bump 1) ∧ DKeep P P w (w.setCell ⟨P.d, 9, none⟩ (.int .i64 (wrap64 (D.c1 + 1))))) ∧
    (DevAt B (w.setCell ⟨P.d, 10, none⟩ (.int .i64 (wrap64 (D.c2 + 1)))) P (D.bump 2) ∧ DKeep P P w (w.setCell ⟨P.d, 10, none⟩ (.int .i64 (wrap64 (D.c2 + 1))))) ∧
    (DevAt B (w.setCell ⟨P.d, 11, none⟩ (.int .i64 (wrap64 (D.c3 + 1)))) P (D.bump 3) ∧ DKeep P P w (w.setCell ⟨P.d, 11, none⟩ (.int .i64 (wrap64 (D.c3 + 1))))) ∧
    (DevAt B (w.setCell ⟨P.d, 12, none⟩ (.int .i64 (wrap64 (D.c4 + 1)))) P (D.bump 4) ∧ DKeep P P w (w.setCell ⟨P.d, 12, none⟩ (.int .i64 (wrap64 (D.c4 + 1))))) :=
  ⟨h.put P.cv P.qv P.kv (D.bump 1) (blk_putc h.2.2.2.1 9 _) (gr_put (World.grownBy.refl w _) 9 _) rfl (.inl ⟨rfl, rfl⟩) (.inl ⟨rfl, rfl⟩) (.inl ⟨rfl, rfl⟩),
   h.put P.cv P.qv P.kv (D.bump 2) (blk_putc h.2.2.2.1 10 _) (gr_put (World.grownBy.refl w _) 10 _) rfl (.inl ⟨rfl, rfl⟩) (.inl ⟨rfl, rfl⟩) (.inl ⟨rfl, rfl⟩),
   h.put P.cv P.qv P.kv (D.bump 3) (blk_putc h.2.2.2.1 11 _) (gr_put (World.grownBy.refl w _) 11 _) rfl (.inl ⟨rfl, rfl⟩) (.inl ⟨rfl, rfl⟩) (.inl ⟨rfl, rfl⟩),
   h.put P.cv P.qv P.kv (D.bump 4) (blk_putc h.2.2.2.1 12 _) (gr_put (World.grownBy.refl w _) 12 _) rfl (.inl ⟨rfl, rfl⟩) (.inl ⟨rfl, rfl⟩) (.inl ⟨rfl, rfl⟩)⟩


end Go.Proofs.YtofiedgnnpednaaDoor.VNvmeRefuses
