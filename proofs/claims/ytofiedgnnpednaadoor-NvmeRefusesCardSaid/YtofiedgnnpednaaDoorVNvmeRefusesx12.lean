/- Contracts of functions of this seat: each call comes to what its Lean function computes; no condition beyond what each theorem states. Printed by a program of this session's own laid over the kit's printer. -/
import Derived.Test.YtofiedgnnpednaaDoorVNvmeRefusesx0
import Derived.Test.YtofiedgnnpednaaDoorVNvmeRefusesx1
import Derived.Test.YtofiedgnnpednaaDoorVNvmeRefusesx2
import Derived.Test.YtofiedgnnpednaaDoorVNvmeRefusesx3
import Derived.Test.YtofiedgnnpednaaDoorVNvmeRefusesx8
import Derived.Test.YtofiedgnnpednaaDoorVNvmeRefusesx9
import Derived.Test.YtofiedgnnpednaaDoorVNvmeRefusesx10
namespace Go.Proofs.YtofiedgnnpednaaDoor.VNvmeRefuses
open Go.RowKit Go.Proofs.YtofiedgnnpednaaDoorW.PrintWords Go.Proofs.YtofiedgnnpednaaDoorW.PrintLast Go.Proofs.YtofiedgnnpednaaDoorW.PrintMore
attribute [local go_sem] max2_int min2_int max_two min_two max_three min_three max_four min_four   -- for this text's walks alone
set_option linter.unusedVariables false
set_option linter.unusedSimpArgs false

-- @GIVEN nvme_lose
/-! ### nvme_lose: by hand -/
theorem writes_succ (l : List NC) (k : Nat) (x : NC) (hx : l[k]? = some x) : writesOf (l.take (k + 1)) = writesOf (l.take k) ++ (if x.kind = 2 ∨ x.kind = 3 then [x] else []) := by
  unfold writesOf
  rw [List.take_add_one, hx, Option.toList_some, List.filter_append]
  congr 1
  by_cases h2 : x.kind = 2
  · simp [h2]
  · by_cases h3 : x.kind = 3
    · simp [h3]
    · simp [h2, h3]
theorem kept_append (keep : List Int) : ∀ (a b : List NC) (i : Nat), keptOf keep i (a ++ b) = keptOf keep i a ++ keptOf keep (i + a.length) b
  | [], b, i => by simp [keptOf]
  | x :: a, b, i => by
    rw [List.cons_append, keptOf, keptOf, kept_append keep a b (i + 1), List.length_cons, show i + (a.length + 1) = i + 1 + a.length by omega]
    split <;> simp
theorem kept_succ (keep : List Int) (l : List NC) (k : Nat) (x : NC) (hx : l[k]? = some x) : keptOf keep 0 (l.take (k + 1)) = keptOf keep 0 (l.take k) ++ (if keep.length = 0 ∨ keep.getD (k % keep.length) 0 = 0 then [] else [x]) := by
  have hk : k < l.length := (List.getElem?_eq_some_iff.1 hx).1
  rw [List.take_add_one, hx, Option.toList_some, kept_append, List.length_take, Nat.min_eq_left (Nat.le_of_lt hk), Nat.zero_add]
  rfl
theorem two_new (w : World) (o o' : Obj) : ((w.alloc o).alloc o').heap[w.heap.size + 1]? = some o' := by
  have h := heap_alloc_new (w.alloc o) o'
  rwa [World.size_alloc] at h
theorem kept_length (keep : List Int) : ∀ (l : List NC) (i : Nat), (keptOf keep i l).length ≤ l.length
  | [], _ => Nat.le_refl _
  | x :: l, i => by
    rw [keptOf]
    have := kept_length keep l (i + 1)
    split
    · exact Nat.le_succ_of_le this
    · exact Nat.succ_le_succ this
theorem meas_succ {k n : Nat} (h : k < n) : n - (intOf (.int .i64 ((k + 1 : Nat) : Int))).toNat < n - (intOf (.int .i64 (k : Int))).toNat := by simp only [intOf]; omega
set_option maxHeartbeats 16000000 in
set_option maxRecDepth 100000 in
/-- What isn't kept is lost. -/
theorem nLose (P : DevP) (D : Dev) (keep : List Int) (kv0 : Value) (B B1 : Nat) (w : World) (hB : B ≤ w.heap.size) (h : DevAt B w P D) (hk : w.ownsRow B1 3 1 kv0 keep.length (keep.map (.int .i64))) (hc : D.cache.length < 100000000) (hq : D.queue.length < 100000000) (hkl : keep.length < 100000000) :
    Calls Tryd.prog 38 #[.pointer (some ⟨P.d, 0, none⟩), kv0] w fun r w' => ∃ P', r = .returned (.tuple #[]) ∧ DevAt B w' P' (D.lose keep) ∧ DKeep P P' w w' := by
  obtain ⟨d, mb, cv, qv, kv⟩ := P
  obtain ⟨cA, cc, rfl⟩ : ∃ A c, cv = _ := own_form h.2.2.2.2.2.1
  obtain ⟨qA, qc, rfl⟩ : ∃ A c, qv = _ := own_form h.2.2.2.2.2.2.1
  obtain ⟨kA, kc, rfl⟩ : ∃ A c, kv = _ := own_form h.2.2.2.2.2.2.2.1
  obtain ⟨uA, uc, rfl⟩ : ∃ A c, kv0 = _ := own_form hk
  have HD := Aside0.mk h
  have HU := Aside0.mk hk
  have HS := Aside0.mk hB
  have HC := Aside0.mk hc
  have HQ := Aside0.mk hq
  have HKL := Aside0.mk hkl
  have HCL := Aside0.mk (nClone _ _ _ _ h.2.2.2.2.2.1 (Nat.lt_trans hc (by decide)))
  have c3 := (blk_cell h.2.2.2.1 3).trans rfl
  have c4 := (blk_cell h.2.2.2.1 4).trans rfl
  clear h hk hB hc hq
  go_enter Tryd.func38, Tryd.ntmps38
  go_wp2_with (first | (go_at_call 48; (with_reducible refine HCL.out.mono ?_); rintro e w5 ⟨v5, rfl, ho5, hb5⟩; obtain ⟨A5, n5, rfl⟩ := own_form ho5; have c4 := (blk_cell (HD.out.below hb5).2.2.2.1 4).trans rfl) | fail)
  have hqn := (Below.block hb5)
  go_loopw [4, 20] (fun v4 vi wr => ∃ k : Nat, k ≤ D.queue.length ∧ vi = .int .i64 k ∧ (∃ A c m, m = D.cache ++ writesOf (D.queue.take k) ∧ v4 = .slice A m.length c ∧ wr.ownsRow w.heap.size 38 4 (.slice A m.length c) m.length (flatN m)) ∧ Below w.heap.size w wr) (fun _ vi _ => D.queue.length - (intOf vi).toNat)
  case atStart =>
    have e0 : D.cache ++ writesOf (D.queue.take 0) = D.cache := by simp [writesOf]
    exact ⟨0, Nat.zero_le _, rfl, ⟨A5, n5, D.cache, e0.symm, rfl, ho5⟩, hb5⟩
  case round =>
    obtain ⟨k, hk, rfl, ⟨A4, n4, m, hm, rfl, ho4⟩, hbl⟩ := hrel
    clear ho5 hb5 hqn c3 c4 HCL
    by_cases hlt : k < D.queue.length
    · have hrow : wr.ownsRow B 38 4 (.slice qA D.queue.length qc) D.queue.length (flatN D.queue) := (HD.out.below hbl).2.2.2.2.2.2.1
      obtain ⟨g, c', cur, e, hrest_⟩ := row4_open hrow (Nat.lt_of_le_of_lt (Nat.zero_le k) hlt)
      cases e
      clear hrest_
      obtain ⟨x, hx⟩ : ∃ x, D.queue[k]? = some x := ⟨D.queue[k], List.getElem?_eq_getElem hlt⟩
      obtain ⟨x0, x1, x2, x3⟩ := row4_cell hrow k x hx
      have hs := writes_succ D.queue k x hx
      have hp1 : decide ((k : Int) < (D.queue.length : Int)) = true := decide_eq_true (by omega)
      have hw2 := wr_succ k (Nat.lt_trans (Nat.lt_trans hlt HQ.out) (by decide))
      have HS2 := Aside0.mk hs
      have HO4 := Aside0.mk ho4
      have HBL := Aside0.mk hbl
      have HK := Aside0.mk hlt
      have HM := Aside0.mk hm
      have hml : m.length < 1000000000 := by
        rw [hm]
        have h1 : (writesOf (D.queue.take k)).length ≤ D.queue.length := Nat.le_trans (List.length_filter_le _ _) (by rw [List.length_take]; exact Nat.min_le_right _ _)
        have := HC.out
        have := HQ.out
        rw [List.length_append]
        omega
      have HML := Aside0.mk hml
      clear hrow hx hs ho4 hbl hk hml hkl hm
      by_cases hwk : x.kind = 2 ∨ x.kind = 3
      · have HA := Aside0.mk (app_own (w := (wr.alloc (.cells #[.int .i64 x.kind, .int .i64 x.sector, .string x.data, .int .i64 x.tag] 38)).alloc (.cells #[.int .i64 x.kind, .int .i64 x.sector, .string x.data, .int .i64 x.tag] 38)) (B := w.heap.size) (by simp only [World.size_alloc]; exact Nat.le_trans (Below.size HBL.out) (by omega)) ((HO4.out.alloc _).alloc _) HML.out (ad := ⟨wr.heap.size + 1, 0, none⟩) (c := x) (m := 1) (fun j u hu => by rw [add_plain]; exact (blk_cell (two_new wr (.cells #[.int .i64 x.kind, .int .i64 x.sector, .string x.data, .int .i64 x.tag] 38) _) j).trans (by simpa [encN] using hu)) 64 64 Tryd.underlying64)
        obtain ⟨v7, w7, hr7, ho7, hg7, _, g7, n7, rfl⟩ := HA.out
        rw [if_pos hwk] at HS2
        have HR7 := Aside0.mk hr7
        have HO7 := Aside0.mk ho7
        have HG7 := Aside0.mk hg7
        clear HA hr7 ho7 hg7
        have k2 : (x.kind == 3) = true ∨ (x.kind == 3) = false ∧ (x.kind == 2) = true := by
          rcases hwk with e | e <;> rw [e] <;> decide
        clear hwk
        rcases k2 with k2 | ⟨k2, k3⟩
        all_goals
          go_wp2_with (first | (at_builtin; refine Lib.wpList_append_run _ rfl _ _ _ _ rfl _ _ rfl rfl _ _ HR7.out ?_) | fail)
          go_roundw
          case rel =>
            have e1 : m ++ [x] = D.cache ++ writesOf (D.queue.take (k + 1)) := by rw [HS2.out, HM.out, List.append_assoc]
            refine ⟨k + 1, HK.out, by first | (rw [hw2]; done) | simp, ⟨_, n7, m ++ [x], e1, by simp, HO7.out⟩, (HBL.out.trans (Below.mono (below_alloc (below_alloc (Below.refl _ wr) _) _) (Below.size HBL.out))).grown HG7.out (by simp only [World.size_alloc]; exact Nat.le_trans (Below.size HBL.out) (by omega)) (fun q hq => (HO4.out.lt q hq).1)⟩
          case measure => first | exact meas_succ HK.out | (rw [hw2]; exact meas_succ HK.out)
      · have k2 : (x.kind == 3) = false := beq_eq_false_iff_ne.2 (fun e => hwk (.inr e))
        have k3 : (x.kind == 2) = false := beq_eq_false_iff_ne.2 (fun e => hwk (.inl e))
        rw [if_neg hwk, List.append_nil] at HS2
        clear hwk
        go_wp2_with (fail)
        go_roundw
        case rel => exact ⟨k + 1, HK.out, by first | (rw [hw2]; done) | simp, ⟨_, n4, m, by rw [HS2.out]; exact HM.out, rfl, HO4.out.alloc _⟩, HBL.out.trans (Below.mono (below_alloc (Below.refl _ wr) _) (Below.size HBL.out))⟩
        case measure => first | exact meas_succ HK.out | (rw [hw2]; exact meas_succ HK.out)
    · obtain rfl : k = D.queue.length := Nat.le_antisymm hk (Nat.le_of_not_lt hlt)
      rw [List.take_length] at hm
      have HM := Aside0.mk hm
      have HO4 := Aside0.mk ho4
      have HBL := Aside0.mk hbl
      have hmm : m.length < 1000000000 := by
        rw [hm, List.length_append]
        have h1 : (writesOf D.queue).length ≤ D.queue.length := List.length_filter_le _ _
        have := HC.out
        have := HQ.out
        omega
      have HMM := Aside0.mk hmm
      clear hk hlt hkl hm ho4 hbl hmm
      go_wp2_with (fail)
      go_loopw [7, 37] (fun v7 vi wz => ∃ k : Nat, k ≤ m.length ∧ vi = .int .i64 k ∧ (∃ A c m2, m2 = keptOf keep 0 (m.take k) ∧ v7 = .slice A m2.length c ∧ wz.ownsRow w.heap.size 38 4 (.slice A m2.length c) m2.length (flatN m2) ∧ ((Value.slice A4 m.length n4).ownBlock = none ∨ (Value.slice A4 m.length n4).ownBlock ≠ (Value.slice A m2.length c).ownBlock)) ∧ wz.ownsRow w.heap.size 38 4 (.slice A4 m.length n4) m.length (flatN m) ∧ Below w.heap.size w wz) (fun _ vi _ => m.length - (intOf vi).toNat)
      case atStart => exact ⟨0, Nat.zero_le _, rfl, ⟨none, 0, [], rfl, rfl, own_nil _ _ _ _, by
        by_cases e : (Value.slice A4 m.length n4).ownBlock = none
        · exact .inl e
        · exact .inr e⟩, HO4.out, HBL.out⟩
      case round =>
        obtain ⟨k, hk, rfl, ⟨A7, n7, m2, hm2, rfl, ho7, hne7⟩, ho4, hbl⟩ := hrel
        clear HO4 HBL
        by_cases hlt : k < m.length
        · obtain ⟨g4, c', cur, e, hrest_⟩ := row4_open ho4 (Nat.lt_of_le_of_lt (Nat.zero_le k) hlt)
          cases e
          clear hrest_
          obtain ⟨x, hx⟩ : ∃ x, m[k]? = some x := ⟨m[k], List.getElem?_eq_getElem hlt⟩
          obtain ⟨x0, x1, x2, x3⟩ := row4_cell ho4 k x hx
          have hs := kept_succ keep m k x hx
          have hp1 : decide ((k : Int) < (m.length : Int)) = true := decide_eq_true (by omega)
          have hw2 := wr_succ k (Nat.lt_trans hlt HMM.out)
          have hml : m2.length < 1000000000 := by
            rw [hm2]
            refine Nat.lt_of_le_of_lt (Nat.le_trans (kept_length keep _ 0) ?_) HMM.out
            rw [List.length_take]
            exact Nat.min_le_right _ _
          have HS2 := Aside0.mk hs
          have HO4 := Aside0.mk ho4
          have HO7 := Aside0.mk ho7
          have HNE := Aside0.mk hne7
          have HBL := Aside0.mk hbl
          have HK := Aside0.mk hlt
          have HML := Aside0.mk hml
          have HM2 := Aside0.mk hm2
          have HUW := Aside0.mk (own_same HU.out fun g hg => hbl.block g (HU.out.lt g hg).2)
          clear hx hs ho4 ho7 hne7 hbl hk hml hm2
          by_cases hke : keep.length = 0
          · rw [if_pos (.inl hke)] at HS2
            obtain rfl : keep = [] := List.eq_nil_of_length_eq_zero hke
            clear hke
            simp only [List.length_nil]
            go_wp2_with (fail)
            go_roundw
            case rel => exact ⟨k + 1, HK.out, by first | (rw [hw2]; done) | simp, ⟨A7, n7, m2, by rw [HS2.out, List.append_nil]; exact HM2.out, rfl, HO7.out.alloc _, HNE.out⟩, HO4.out.alloc _, HBL.out.trans (Below.mono (below_alloc (Below.refl _ wr) _) (Below.size HBL.out))⟩
            case measure => first | exact meas_succ HK.out | (rw [hw2]; exact meas_succ HK.out)
          · have p4 : decide (0 < (keep.length : Int)) = true := decide_eq_true (by omega)
            obtain ⟨z, hz⟩ : ∃ z, z = keep.getD (k % keep.length) 0 := ⟨_, rfl⟩
            have hkm : k % keep.length < keep.length := Nat.mod_lt _ (Nat.pos_of_ne_zero hke)
            have hz2 : keep[k % keep.length]? = some z := by rw [hz, List.getD_eq_getElem?_getD, List.getElem?_eq_getElem hkm]; rfl
            obtain ⟨gU, eU⟩ : ∃ gU, uA = some ⟨gU, 0, none⟩ := by
              rcases HU.out.2 with ⟨_, e0⟩ | ⟨gU, _, _, e, _⟩
              · exact absurd e0 hke
              · cases e
                exact ⟨gU, rfl⟩
            subst eU
            have cu : (wr.alloc (.cells #[.int .i64 x.kind, .int .i64 x.sector, .string x.data, .int .i64 x.tag] 38)).cell? ⟨gU, k % keep.length, none⟩ = some (.int .i64 z) := by
              have := World.ownsRow.cells (HUW.out.alloc (.cells #[.int .i64 x.kind, .int .i64 x.sector, .string x.data, .int .i64 x.tag] 38)) (g := gU) rfl (k % keep.length) (.int .i64 z) (by rw [List.getElem?_map, hz2]; rfl)
              rwa [add_plain] at this
            have hrem : (k : Int) % (keep.length : Int) = ((k % keep.length : Nat) : Int) := (Int.natCast_emod k keep.length).symm
            have p4n : decide (0 < keep.length) = true := decide_eq_true (Nat.pos_of_ne_zero hke)
            have p4p : 0 < keep.length := Nat.pos_of_ne_zero hke
            have hk0 : ((keep.length : Int) == 0) = false := beq_eq_false_iff_ne.2 (by omega)
            rw [← hz] at HS2
            clear hz hz2
            generalize k % keep.length = q at hkm cu hrem
            by_cases hz0 : z = 0
            · have p5 : (z != 0) = false := by rw [hz0]; rfl
              rw [if_pos (.inr hz0)] at HS2
              clear hz0 hke
              go_wp2_with (fail)
              go_roundw
              case rel => exact ⟨k + 1, HK.out, by first | (rw [hw2]; done) | simp, ⟨A7, n7, m2, by rw [HS2.out, List.append_nil]; exact HM2.out, rfl, HO7.out.alloc _, HNE.out⟩, HO4.out.alloc _, HBL.out.trans (Below.mono (below_alloc (Below.refl _ wr) _) (Below.size HBL.out))⟩
              case measure => first | exact meas_succ HK.out | (rw [hw2]; exact meas_succ HK.out)
            · have p5 : (z != 0) = true := by rw [bne_iff_ne]; exact hz0
              rw [if_neg (fun e => e.elim hke hz0)] at HS2
              clear hz0 hke
              have HA := Aside0.mk (app_own (w := (wr.alloc (.cells #[.int .i64 x.kind, .int .i64 x.sector, .string x.data, .int .i64 x.tag] 38)).alloc (.cells #[.int .i64 x.kind, .int .i64 x.sector, .string x.data, .int .i64 x.tag] 38)) (B := w.heap.size) (by simp only [World.size_alloc]; exact Nat.le_trans (Below.size HBL.out) (by omega)) ((HO7.out.alloc _).alloc _) HML.out (ad := ⟨wr.heap.size + 1, 0, none⟩) (c := x) (m := 1) (fun j u hu => by rw [add_plain]; exact (blk_cell (two_new wr (.cells #[.int .i64 x.kind, .int .i64 x.sector, .string x.data, .int .i64 x.tag] 38) _) j).trans (by simpa [encN] using hu)) 64 64 Tryd.underlying64)
              obtain ⟨v8, w8, hr8, ho8, hg8, hat8, g8, n8, rfl⟩ := HA.out
              have HR8 := Aside0.mk hr8
              have HO8 := Aside0.mk ho8
              have HG8 := Aside0.mk hg8
              have HT8 := Aside0.mk hat8
              clear HA hr8 ho8 hg8 hat8

              go_wp2_with (first | (at_builtin; refine Lib.wpList_append_run _ rfl _ _ _ _ rfl _ _ rfl rfl _ _ HR8.out ?_) | fail)
              go_roundw
              case rel =>
                have e1 : m2 ++ [x] = keptOf keep 0 (m.take (k + 1)) := by rw [HS2.out, HM2.out]
                have hb9 := Below.mono (below_alloc (below_alloc (Below.refl _ wr) (.cells #[.int .i64 x.kind, .int .i64 x.sector, .string x.data, .int .i64 x.tag] 38)) (.cells #[.int .i64 x.kind, .int .i64 x.sector, .string x.data, .int .i64 x.tag] 38)) (Below.size HBL.out)
                refine ⟨k + 1, HK.out, by first | (rw [hw2]; done) | simp, ⟨_, n8, m2 ++ [x], e1, by simp, HO8.out, ?_⟩, ((HO4.out.alloc _).alloc _).kept HG8.out (HNE.out.imp id id), (HBL.out.trans hb9).grown HG8.out (by simp only [World.size_alloc]; exact Nat.le_trans (Below.size HBL.out) (by omega)) (fun q hq => (HO7.out.lt q hq).1)⟩
                refine .inr (fun e => ?_)
                rcases HT8.out g8 rfl with e3 | e3
                · exact HNE.out.elim (fun e4 => by cases e4) (fun e4 => e4 (e.trans e3.symm))
                · have e5 : g4 = g8 := Option.some.inj e
                  have h5 := (HO4.out.lt g4 rfl).2
                  simp only [World.size_alloc] at e3
                  omega
              case measure => first | exact meas_succ HK.out | (rw [hw2]; exact meas_succ HK.out)
        · obtain rfl : k = m.length := Nat.le_antisymm hk (Nat.le_of_not_lt hlt)
          rw [List.take_length] at hm2
          have hDw := HD.out.below hbl
          have hlose : D.lose keep = { D.persist m2 with cache := [], queue := [], down := true, fail := 0, keep := [] } := by
            unfold Dev.lose Dev.persist
            rw [hm2, HM.out]
          have hml : m2.length < 1000000000 := by
            rw [hm2]
            exact Nat.lt_of_le_of_lt (kept_length keep _ 0) HMM.out
          have HP := Aside0.mk (nPersist _ _ _ _ _ _ hDw (own_le ho7 (Nat.zero_le _)) hml)
          have HBL := Aside0.mk hbl
          have HL := Aside0.mk hlose
          clear hm2 ho7 hne7 ho4 hbl hDw hml hk hlt hlose
          go_wp2_with (first | (go_at_call 43; (with_reducible refine HP.out.mono ?_); rintro e w9 ⟨rfl, hd9, hg9⟩; have HD9 := Aside0.mk hd9; have HG9 := Aside0.mk hg9; have f3 := blk_frozen hd9.2.2.2.1 3; have f4 := blk_frozen hd9.2.2.2.1 4; have f5 := blk_frozen hd9.2.2.2.1 5; have f6 := blk_frozen hd9.2.2.2.1 6; have f7 := blk_frozen hd9.2.2.2.1 7; have l3 := (blk_cell hd9.2.2.2.1 3).trans rfl; have l4 := (blk_cell hd9.2.2.2.1 4).trans rfl; have l5 := (blk_cell hd9.2.2.2.1 5).trans rfl; have l6 := (blk_cell hd9.2.2.2.1 6).trans rfl; have l7 := (blk_cell hd9.2.2.2.1 7).trans rfl; clear hd9 hg9) | fail)
          go_end0
          obtain ⟨h1, h2⟩ := HD9.out.put (.slice none 0 0) (.slice none 0 0) (.slice none 0 0) (D.lose keep) (w' := (((((w9.setCell ⟨d, 3, none⟩ (.slice none 0 0)).setCell ⟨d, 4, none⟩ (.slice none 0 0)).setCell ⟨d, 5, none⟩ (.bool true)).setCell ⟨d, 6, none⟩ (.int .i64 0)).setCell ⟨d, 7, none⟩ (.slice none 0 0))) (by rw [HL.out]; exact blk_putc (blk_putc (blk_putc (blk_putc (blk_putc HD9.out.2.2.2.1 3 _) 4 _) 5 _) 6 _) 7 _) (gr_put (gr_put (gr_put (gr_put (gr_put (World.grownBy.refl w9 _) 3 _) 4 _) 5 _) 6 _) 7 _) (by rw [HL.out]) (.inr ⟨rfl, by rw [HL.out]⟩) (.inr ⟨rfl, by rw [HL.out]⟩) (.inr ⟨rfl, by rw [HL.out]⟩)
          exact ⟨_, rfl, h1, ((dkeep_of HBL.out _).trans (grown_dkeep HG9.out)).trans h2⟩


end Go.Proofs.YtofiedgnnpednaaDoor.VNvmeRefuses
