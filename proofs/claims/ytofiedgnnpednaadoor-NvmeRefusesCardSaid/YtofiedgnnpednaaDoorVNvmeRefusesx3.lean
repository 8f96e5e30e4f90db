/- Contracts of functions of this seat: each call comes to what its Lean function computes; no condition beyond what each theorem states. Printed by a program of this session's own laid over the kit's printer. -/
import Derived.Deep.DeepAppendRoom
import Derived.Test.YtofiedgnnpednaaDoorVNvmeRefusesx0
import Derived.Test.YtofiedgnnpednaaDoorVNvmeRefusesx1
namespace Go.Proofs.YtofiedgnnpednaaDoor.VNvmeRefuses
open Go.RowKit Go.Proofs.YtofiedgnnpednaaDoorW.PrintWords Go.Proofs.YtofiedgnnpednaaDoorW.PrintLast Go.Proofs.YtofiedgnnpednaaDoorW.PrintMore
attribute [local go_sem] max2_int min2_int max_two min_two max_three min_three max_four min_four   -- for this text's walks alone
set_option linter.unusedVariables false
set_option linter.unusedSimpArgs false

-- @GIVEN lib_nvk
theorem own_same {w w' : World} {B n s : Nat} {T : TypeId} {v : Value} {xs : List Value} (h : w.ownsRow B T s v n xs) (hb : ∀ g, v.ownBlock = some g → w'.heap[g]? = w.heap[g]?) : w'.ownsRow B T s v n xs := by
  refine ⟨h.1, ?_⟩
  rcases h.2 with ⟨h1, h0⟩ | ⟨g, c, cur, rfl, h1, h2, h3⟩
  · exact .inl ⟨h1, h0⟩
  · exact .inr ⟨g, c, cur, rfl, h1, (hb g rfl).trans h2, h3⟩
theorem own_kind {w : World} {B n s : Nat} {T : TypeId} {v : Value} {xs : List Value} (h : w.ownsRow B T s v n xs) {g : Nat} (hv : v.ownBlock = some g) : ∃ cur, w.heap[g]? = some (.cells cur T (0, 0)) := by
  rcases h.2 with ⟨rfl, h0⟩ | ⟨g', c, cur, rfl, h1, h2, h3⟩
  · cases hv
  · cases hv
    exact ⟨cur, h2⟩
theorem own_le {w : World} {base base' size n : Nat} {e : TypeId} {v : Value} {xs : List Value} (h : w.ownsRow base e size v n xs) (hb : base' ≤ base) : w.ownsRow base' e size v n xs := ⟨h.1, h.2.imp id (fun ⟨g, c, cur, h1, h2, h3⟩ => ⟨g, c, cur, h1, Nat.le_trans hb h2, h3⟩)⟩
theorem blk_putc {w : World} {g : Nat} {cs : Array Value} {T : TypeId} (h : w.heap[g]? = some (.cells cs T (0, 0))) (i : Nat) (v : Value) : (w.setCell ⟨g, i, none⟩ v).heap[g]? = some (.cells (cs.setIfInBounds i v) T (0, 0)) := by
  simp [World.setCell, Array.getElem?_modify, h]
theorem DKeep.refl (P : DevP) (w : World) : DKeep P P w w := ⟨rfl, rfl, rfl, Nat.le_refl _, rfl, fun _ _ _ => rfl, fun _ h => .inl h⟩
theorem DKeep.not {P P' : DevP} {w w' : World} (h : DKeep P P' w w') {k : Nat} (hk : k < w.heap.size) (hn : ¬ P.has k) : ¬ P'.has k := fun hp => (h.foot k hp).elim hn (fun e => by omega)
theorem DKeep.trans {P P' P'' : DevP} {w w' w'' : World} (h : DKeep P P' w w') (k : DKeep P' P'' w' w'') : DKeep P P'' w w'' :=
  ⟨k.os.trans h.os, k.tape.trans h.tape, k.output.trans h.output, Nat.le_trans h.size k.size, k.d.trans h.d, fun i hi hn => (k.block i (Nat.lt_of_lt_of_le hi h.size) (h.not hi hn)).trans (h.block i hi hn),
    fun i hi => (k.foot i hi).elim (fun e => h.foot i e) (fun e => .inr (Nat.le_trans h.size e))⟩
theorem DKeep.below {P P' : DevP} {w w' : World} {B : Nat} (h : DKeep P P' w w') (hB : ∀ k, P.has k → B ≤ k) (hw : B ≤ w.heap.size) : Below B w w' :=
  ⟨h.os, h.tape, h.output, h.size, fun k hk => h.block k (Nat.lt_of_lt_of_le hk hw) (fun hp => by have := hB k hp; omega)⟩
theorem dkeep_of {w w' : World} (h : Below w.heap.size w w') (P : DevP) : DKeep P P w w' := ⟨h.os, h.tape, h.output, h.size, rfl, fun k hk _ => h.block k hk, fun _ h => .inl h⟩
theorem DevAt.lt {B : Nat} {w : World} {P : DevP} {D : Dev} (h : DevAt B w P D) : ∀ k, P.has k → B ≤ k ∧ k < w.heap.size := by
  obtain ⟨h1, h2, h3, h4, ⟨es, cl, h5, h6⟩, h7, h8, h9, h10⟩ := h
  rintro k (rfl | rfl | hk | hk)
  · exact ⟨h1, (Array.getElem?_eq_some_iff.1 h4).1⟩
  · exact ⟨h2, (Array.getElem?_eq_some_iff.1 h5).1⟩
  · exact h7.lt k hk
  · exact h8.lt k hk
theorem DevAt.kept {B : Nat} {w w' : World} {P : DevP} {D : Dev} (h : DevAt B w P D) (hb : ∀ k, P.has k ∨ P.kv.ownBlock = some k → w'.heap[k]? = w.heap[k]?) : DevAt B w' P D := by
  obtain ⟨h1, h2, h3, h4, ⟨es, cl, h5, h6⟩, h7, h8, h9, h10⟩ := h
  exact ⟨h1, h2, h3, (hb _ (.inl (.inl rfl))).trans h4, ⟨es, cl, (hb _ (.inl (.inr (.inl rfl)))).trans h5, h6⟩, own_same h7 (fun g hg => hb g (.inl (.inr (.inr (.inl hg))))), own_same h8 (fun g hg => hb g (.inl (.inr (.inr (.inr hg))))), own_same h9 (fun g hg => hb g (.inr hg)), h10⟩
theorem DevAt.below {B : Nat} {w w' : World} {P : DevP} {D : Dev} (h : DevAt B w P D) (hk : Below w.heap.size w w') : DevAt B w' P D :=
  h.kept fun k hp => hk.block k (hp.elim (fun e => (h.lt k e).2) (fun e => (h.2.2.2.2.2.2.2.1.lt k e).2))
theorem DevAt.alloc {B : Nat} {w : World} {P : DevP} {D : Dev} (h : DevAt B w P D) (o : Obj) : DevAt B (w.alloc o) P D := h.below (below_alloc (Below.refl _ _) o)
theorem DevAt.drew {B : Nat} {w : World} {P : DevP} {D : Dev} (h : DevAt B w P D) : DevAt B w.drew P D := h
theorem DevAt.le {B B' : Nat} {w : World} {P : DevP} {D : Dev} (h : DevAt B w P D) (hb : B' ≤ B) : DevAt B' w P D := by
  obtain ⟨h1, h2, h3, h4, h5, h7, h8, h9, h10⟩ := h
  exact ⟨Nat.le_trans hb h1, Nat.le_trans hb h2, h3, h4, h5, own_le h7 hb, own_le h8 hb, own_le h9 hb, h10⟩
/-- A device's row of commands lies apart from its own block and its map. -/
theorem DevAt.apart {B : Nat} {w : World} {P : DevP} {D : Dev} (h : DevAt B w P D) {g : Nat} (hg : P.cv.ownBlock = some g ∨ P.qv.ownBlock = some g) : g ≠ P.d ∧ g ≠ P.mb ∧ P.kv.ownBlock ≠ some g := by
  obtain ⟨h1, h2, h3, h4, ⟨es, cl, h5, h6⟩, h7, h8, h9, h10⟩ := h
  obtain ⟨cur, hc⟩ : ∃ cur, w.heap[g]? = some (.cells cur 38 (0, 0)) := hg.elim (own_kind h7) (own_kind h8)
  refine ⟨?_, ?_, ?_⟩
  · rintro rfl
    rw [h4] at hc
    cases hc
  · rintro rfl
    rw [h5] at hc
    cases hc
  · intro hk
    obtain ⟨cur', hk⟩ := own_kind h9 hk
    rw [hc] at hk
    cases hk
/-- An append to a row of commands: where it lies. -/
theorem app_own {w : World} {B : Nat} (hB : B ≤ w.heap.size) {v : Value} {l : List NC} (hown : w.ownsRow B 38 4 v l.length (flatN l)) (hl : l.length < 1000000000) {ad : Addr} {c : NC} {m : Nat} (hc : ∀ j u, (encN c)[j]? = some u → w.cell? (ad.add j) = some u) (t ty : TypeId) (ht : Tryd.prog.underlying t = some (.slice 38)) :
    ∃ v' w', (Builtin.append_ #[t, t] ty #[v, .slice (some ad) 1 m]).run Tryd.prog w = .ok v' w' ∧ w'.ownsRow B 38 4 v' (l ++ [c]).length (flatN (l ++ [c])) ∧ w.grownBy w' v.ownBlock ∧ (∀ k, v'.ownBlock = some k → v.ownBlock = some k ∨ w.heap.size ≤ k) ∧ ∃ g n, v' = .slice (some ⟨g, 0, none⟩) (l ++ [c]).length n := by
  obtain ⟨i0, hi, hz0, hz1, hz2⟩ := info_parts (P := Tryd.prog) (e := 38) (z := zeroN.v) (size := 4) (bytes := 40) (by kernel_rfl)
  have h1 : ∀ u ∈ encN c, u.oneCell' = true := by rw [← flatN_one]; exact flatN_oneCell [c]
  have hm : maxLen = 9223372036854775807 := rfl
  have hlen : (l ++ [c]).length = l.length + 1 := by simp
  have hfl : flatN (l ++ [c]) = flatN l ++ encN c := by rw [flatN_append, flatN_one]
  have key : ∀ B' : Nat, w.ownsRow B' 38 4 v l.length (flatN l) → B' ≤ w.heap.size → _ := fun B' ho hb' => run_append_own (P := Tryd.prog) (w := w) B' t ty 38 i0 zeroN.v 4 40 ht hi hz0 hz1 hz2 rfl (by decide) v l.length (flatN l) ho ad 1 m (encN c) rfl hc h1 (by omega) (by omega) hb'
  obtain ⟨v', w', hr, h2, h3, h4⟩ := key B hown hB
  refine ⟨v', w', hr, by rw [hlen, hfl]; exact h2, h3, ?_, ?_⟩
  · rcases hown.2 with ⟨rfl, h0⟩ | ⟨g, cap, cur, rfl, h5, h6, h7, h8, h9, h10⟩
    · intro k hk
      have hn : flatN l = [] := List.eq_nil_of_length_eq_zero (by rw [hown.1, h0])
      have hown2 : w.ownsRow w.heap.size 38 4 (.slice none 0 0) l.length (flatN l) := by
        rw [h0, hn]
        exact World.ownsRow_nil _ _ _ _
      obtain ⟨v2, w2, hr2, h5, _⟩ := key _ hown2 (Nat.le_refl _)
      rw [hr] at hr2
      cases hr2
      exact .inr (h5.lt k hk).1
    · by_cases hroom : l.length + 1 ≤ cap
      · obtain ⟨w2, hr2, _⟩ := run_append_own_spare (P := Tryd.prog) (w := w) B t ty 38 i0 4 ht hi hz1 g l.length cap (flatN l) hown ad 1 m (encN c) rfl hc h1 hroom
        rw [hr] at hr2
        cases hr2
        exact fun k hk => .inl hk
      · have hr2 := run_append_grow (P := Tryd.prog) w t ty 38 i0 zeroN.v ht hi hz0 ⟨g, 0, none⟩ l.length cap (flatN l) (by rw [hz1]; exact hown.1) (hown.cells (g := g) rfl) ad 1 m (encN c) (by rw [hz1]; rfl) hc (by omega) (by omega) (growslice_fits (by omega) (by rw [hz2]; omega))
        rw [hr] at hr2
        cases hr2
        intro k hk
        cases hk
        exact .inr (Nat.le_refl _)
  · obtain ⟨g, cap, _, e, _⟩ := row4_open (l := l ++ [c]) (by rw [hfl]; exact h2) (by omega)
    exact ⟨g, cap, by rw [hlen]; exact e⟩
theorem gr_put {w W : World} {g : Nat} (h : w.grownBy W (some g)) (i : Nat) (v : Value) : w.grownBy (W.setCell ⟨g, i, none⟩ v) (some g) :=
  ⟨h.os, h.tape, h.output, by rw [World.size_setCell]; exact h.size, fun k hk hn => (Below.heap_setCell W ⟨g, i, none⟩ v k (fun e => hn (by rw [e]))).trans (h.block k hk hn)⟩
def Dev.cells (D : Dev) (P : DevP) : Array Value := #[.int .i64 D.sectors, .int .i64 D.depth, .map (some P.mb), P.cv, P.qv, .bool D.down, .int .i64 D.fail, P.kv, .int .i64 D.c0, .int .i64 D.c1, .int .i64 D.c2, .int .i64 D.c3, .int .i64 D.c4]
/-- Stores into the device's own block: what it is behind them. -/
theorem DevAt.put {B : Nat} {w w' : World} {P : DevP} {D : Dev} (h : DevAt B w P D) (cv qv kv : Value) (D' : Dev) (hg : w'.heap[P.d]? = some (.cells (D'.cells ⟨P.d, P.mb, cv, qv, kv⟩) 78 (0, 0))) (hw : w.grownBy w' (some P.d)) (hl : D'.last = D.last)
    (hc : cv = P.cv ∧ D'.cache = D.cache ∨ cv = .slice none 0 0 ∧ D'.cache = []) (hq : qv = P.qv ∧ D'.queue = D.queue ∨ qv = .slice none 0 0 ∧ D'.queue = []) (hk : kv = P.kv ∧ D'.keep = D.keep ∨ kv = .slice none 0 0 ∧ D'.keep = []) :
    DevAt B w' ⟨P.d, P.mb, cv, qv, kv⟩ D' ∧ DKeep P ⟨P.d, P.mb, cv, qv, kv⟩ w w' := by
  obtain ⟨h1, h2, h3, h4, ⟨es, cl, h5, h6⟩, h7, h8, h9, h10⟩ := h
  have hrow : ∀ {T : TypeId} {s n : Nat} {v : Value} {xs : List Value}, T ≠ 78 → w.ownsRow B T s v n xs → w'.ownsRow B T s v n xs := fun hT ho => own_same ho fun g hv => by
    obtain ⟨cur, hcur⟩ := own_kind ho hv
    refine hw.block g (Array.getElem?_eq_some_iff.1 hcur).1 (fun e => ?_)
    cases e
    rw [h4] at hcur
    cases hcur
    exact hT rfl
  refine ⟨⟨h1, h2, h3, hg, ⟨es, cl, (hw.block _ (Array.getElem?_eq_some_iff.1 h5).1 (fun e => h3 (Option.some.inj e).symm)).trans h5, by rw [hl]; exact h6⟩, ?_, ?_, ?_, ?_⟩, ⟨hw.os, hw.tape, hw.output, hw.size, rfl, fun k hk hn => hw.block k hk (fun e => hn (.inl (Option.some.inj e))), ?_⟩⟩
  · rcases hc with ⟨rfl, e⟩ | ⟨rfl, e⟩ <;> rw [e]
    · exact hrow (by decide) h7
    · exact own_nil _ _ _ _
  · rcases hq with ⟨rfl, e⟩ | ⟨rfl, e⟩ <;> rw [e]
    · exact hrow (by decide) h8
    · exact own_nil _ _ _ _
  · rcases hk with ⟨rfl, e⟩ | ⟨rfl, e⟩ <;> rw [e]
    · exact hrow (by decide) h9
    · exact own_nil _ _ _ _
  · rcases hc with ⟨rfl, e⟩ | ⟨rfl, e⟩
    · rcases hq with ⟨rfl, e⟩ | ⟨rfl, e⟩
      · exact h10
      · by_cases hz : P.cv.ownBlock = none
        · exact .inl hz
        · exact .inr hz
    · exact .inl rfl
  · rintro k (e | e | e | e)
    · exact .inl (.inl e)
    · exact .inl (.inr (.inl e))
    · rcases hc with ⟨rfl, _⟩ | ⟨rfl, _⟩
      · exact .inl (.inr (.inr (.inl e)))
      · cases e
    · rcases hq with ⟨rfl, _⟩ | ⟨rfl, _⟩
      · exact .inl (.inr (.inr (.inr e)))
      · cases e
theorem dev_same {B : Nat} {w w' : World} {P : DevP} {D : Dev} (h : DevAt B w P D) (hk : Below w.heap.size w w') : DevAt B w' P D ∧ DKeep P P w w' := ⟨h.below hk, dkeep_of hk P⟩
theorem own_form {w : World} {B e s n : Nat} {v : Value} {xs : List Value} (h : w.ownsRow B e s v n xs) : ∃ A c, v = .slice A n c := by
  rcases h.2 with ⟨rfl, rfl⟩ | ⟨g, c, cur, rfl, _⟩
  · exact ⟨_, _, rfl⟩
  · exact ⟨_, _, rfl⟩
theorem DKeep.drew {P P' : DevP} {w w' : World} (h : DKeep P P' w w') : DKeep P P' w w'.drew := ⟨h.os, h.tape, h.output, h.size, h.d, h.block, h.foot⟩
theorem DKeep.drewN {P P' : DevP} {w w' : World} (h : DKeep P P' w w') (n : Nat) : DKeep P P' w (w'.drewN n) := ⟨h.os, h.tape, h.output, h.size, h.d, h.block, h.foot⟩
theorem wr_succ (n : Nat) (h : n < 1000000000) : wrap64 ((n : Int) + 1) = ((n + 1 : Nat) : Int) := by unfold wrap64; omega


end Go.Proofs.YtofiedgnnpednaaDoor.VNvmeRefuses
