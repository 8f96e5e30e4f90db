/- InodeKeeps: the pure law; for every input, no condition. -/
import Derived.Test.YtmncfcebjohloaaVInodeKeepsx7
import Derived.OpenShut
import Derived.Lib.IndexEntry
namespace Go.Proofs.Ytmncfcebjohloaa.Pure
open Go Go.RowKit Go.Proofs.Ytmncfcebjohloaa.VInodeKeeps Go.Proofs.YtmncfcebjohloaaW.PrintWords Go.Proofs.YtmncfcebjohloaaW.PrintLast
set_option linter.unusedSimpArgs false
set_option linter.unusedVariables false

def InodeKeeps.Pure : Prop := ∀ (l0 : List (S41)) (a1_0 : Int) (a1_1 : Int) (a2 : Int), (l0.length * 16 ≤ 140737488351232 ∧ l0.length ≤ maxLen ∧ ∀ l0y ∈ l0, ((Lit.int .i64 l0y.f0).wf = true ∧ (Lit.int .i64 l0y.f1).wf = true)) → (Lit.int .i64 a1_0).wf = true → (Lit.int .i64 a1_1).wf = true → (Lit.int .i64 a2).wf = true → ∃ k, posthorselaw08_InodeKeeps.f k l0 a1_0 a1_1 a2 = some true
/-! ### base -/
theorem dl (s : ByteArray) : s.toList = s.data.toList := Lib.toList_data s
theorem deq {a b : ByteArray} : a = b ↔ a.data.toList = b.data.toList := ⟨fun h => by rw [h], fun h => Go.WideShapes.bytes_inj h⟩
theorem dapp (a b : ByteArray) : (a ++ b).data.toList = a.data.toList ++ b.data.toList := by simp
theorem dlen (a : ByteArray) : a.data.toList.length = a.size := by rw [Array.length_toList]; rfl
theorem w64 {n : Int} (h0 : -9223372036854775808 ≤ n) (h1 : n ≤ 9223372036854775807) : wrap64 n = n := by unfold wrap64; omega
theorem i64b {n : Int} (h : (Lit.int .i64 n).wf = true) : -9223372036854775808 ≤ n ∧ n ≤ 9223372036854775807 := bounds_i64 h
theorem u8w (n : Int) : IntKind.u8.wrap n = n % 256 := IntKind.wrap_u8 n
theorem Ev.all {α : Type} {g : Nat → Option α} {r : α} (h : ∀ k, g k = some r) : Ev g r := ⟨0, fun k _ => h k⟩
theorem Ev.bindS {α β : Type} {g : Nat → Option α} {f : Nat → α → Option β} {a : α} {r : β} (h : Ev g a) (k : Ev (fun n => f n a) r) : Ev (fun n => (g n).bind (f n)) r := Ev.bind h k
theorem Ev.from {α : Type} {g : Nat → Option α} {r : α} (j : Nat) (h : ∀ k, g (k + j) = some r) : Ev g r := ⟨j, fun k hk => by have := h (k - j); rwa [Nat.sub_add_cancel hk] at this⟩
theorem Ev.to {α : Type} {g : Nat → Option α} {r : α} (h : Ev g r) : ∃ k, g k = some r := h.rounds
theorem Ev.at_ {α : Type} {g : Nat → Option α} {r : α} (hg : ∀ k, LeO (g k) (g (k + 1))) {j : Nat} (h : g j = some r) : Ev g r := Ev.of hg h

/-! ### speaks08 -/
theorem speaks08_ev : Ev (fun k => posthorselaw08_speaks.f k) true := Ev.at_ (fun k => posthorselaw08_speaks.mono k) (j := 20) (by decide +kernel)

/-! ### ext08 -/
/-- The sectors of an extent. -/
def runX (a n : Int) : List Int := (List.range n.toNat).map fun (k : Nat) => a + (k : Int)
theorem runX_len (a n : Int) : (runX a n).length = n.toNat := by simp [runX]
theorem runX_get (a n : Int) (j : Nat) (h : j < n.toNat) : (runX a n).getD j 0 = a + (j : Int) := by
  unfold runX
  rw [List.getD_eq_getElem?_getD, List.getElem?_map, List.getElem?_range h]; rfl
abbrev EX := S46
/-- The sectors of all. -/
def secs (xs : List EX) : List Int := xs.flatMap fun e => runX e.f0 e.f1
theorem secs_cons (e : EX) (xs : List EX) : secs (e :: xs) = runX e.f0 e.f1 ++ secs xs := rfl
theorem secs_app (xs ys : List EX) : secs (xs ++ ys) = secs xs ++ secs ys := by unfold secs; rw [List.flatMap_append]
/-- An extent within bounds. -/
def okX (e : EX) : Prop := 0 ≤ e.f0 ∧ e.f0 ≤ 1000000 ∧ 1 ≤ e.f1 ∧ e.f1 ≤ 1000000
/-- What Map answers. -/
def mapS : List EX → Int → Int × Bool
  | [], _ => (0, false)
  | e :: xs, b => if b < e.f1 then (wrap64 (e.f0 + b), true) else mapS xs (wrap64 (b - e.f1))
theorem mapS_secs : ∀ (xs : List EX) (b : Int), (∀ e ∈ xs, okX e) → 0 ≤ b → b ≤ 9223372036854775807 → mapS xs b = if b < ((secs xs).length : Int) then ((secs xs).getD b.toNat 0, true) else (0, false)
  | [], b, _, h0, _ => by rw [mapS, if_neg (by simp [secs]; omega)]
  | e :: xs, b, hx, h0, h1 => by
    obtain ⟨e0, e1, e2, e3⟩ := hx e (by simp)
    have hl : (secs (e :: xs)).length = e.f1.toNat + (secs xs).length := by rw [secs_cons, List.length_append, runX_len]
    rw [mapS]
    by_cases c : b < e.f1
    · rw [if_pos c, if_pos (by omega), w64 (by omega) (by omega)]
      congr 1
      rw [secs_cons, List.getD_eq_getElem?_getD, List.getElem?_append_left (by rw [runX_len]; omega), ← List.getD_eq_getElem?_getD, runX_get _ _ _ (by omega)]
      omega
    · rw [if_neg c, w64 (by omega) (by omega), mapS_secs xs (b - e.f1) (fun y hy => hx y (by simp [hy])) (by omega) (by omega)]
      by_cases c2 : b - e.f1 < ((secs xs).length : Int)
      · rw [if_pos c2, if_pos (by omega)]
        congr 1
        rw [secs_cons, List.getD_eq_getElem?_getD, List.getD_eq_getElem?_getD, List.getElem?_append_right (by rw [runX_len]; omega), runX_len]
        congr 2
        omega
      · rw [if_neg c2, if_neg (by omega)]
theorem rdX (xs : List EX) (i : Nat) (h : i < xs.length) : rd_T46 xs (i : Int) = xs[i] := by
  unfold rd_T46
  rw [Int.toNat_natCast, List.getD_eq_getElem?_getD, List.getElem?_eq_getElem h]; rfl
theorem map_ev (v : Int) (xs : List EX) (hl : xs.length ≤ 1000000) (b : Int) : Ev (fun k => inode_Map.f k v xs b) (if b < 0 then (0, false) else mapS xs b) := by
  unfold inode_Map.f
  by_cases h0 : b < 0
  · simp only [if_pos h0]; exact Ev.now _
  · simp only [if_neg h0]
    have lp : ∀ (d i : Nat) (b : Int), i + d = xs.length → Ev (fun k => inode_Map.l0 k b xs (xs.length : Int) (i : Int)) (mapS (xs.drop i) b) := by
      intro d
      induction d with
      | zero =>
        intro i b hi
        rw [List.drop_eq_nil_of_le (by omega)]
        refine Ev.from 1 fun k => ?_
        rw [inode_Map.l0, if_neg (by omega)]; rfl
      | succ d ih =>
        intro i b hi
        have hil : i < xs.length := by omega
        rw [List.drop_eq_getElem_cons hil, mapS]
        by_cases c : b < (xs[i]).f1
        · rw [if_pos c]
          refine Ev.from 1 fun k => ?_
          rw [inode_Map.l0, if_pos (by omega), if_pos (by omega), if_pos (by omega), rdX xs i hil, if_pos c]
        · rw [if_neg c]
          refine Ev.step (fun k => ?_) (ih (i + 1) _ (by omega))
          rw [inode_Map.l0, if_pos (by omega), if_pos (by omega), if_pos (by omega), rdX xs i hil, if_neg c, w64 (n := (i : Int) + 1) (by omega) (by omega)]
          rfl
    have := lp xs.length 0 b (by omega)
    rw [List.drop_zero] at this
    exact this
/-- What Block answers. -/
def blockS : List EX → Int → Int → Int × Bool
  | [], _, _ => (0, false)
  | e :: xs, s, n => if s ≥ e.f0 then (if wrap64 (s - e.f0) < e.f1 then (wrap64 (wrap64 (n + s) - e.f0), true) else blockS xs s (wrap64 (n + e.f1))) else blockS xs s (wrap64 (n + e.f1))
theorem block_ev (v : Int) (xs : List EX) (hl : xs.length ≤ 1000000) (s : Int) : Ev (fun k => inode_Block.f k v xs s) (blockS xs s 0) := by
  unfold inode_Block.f
  have lp : ∀ (d i : Nat) (n : Int), i + d = xs.length → Ev (fun k => inode_Block.l0 k s n xs (xs.length : Int) (i : Int)) (blockS (xs.drop i) s n) := by
    intro d
    induction d with
    | zero =>
      intro i n hi
      rw [List.drop_eq_nil_of_le (by omega)]
      refine Ev.from 1 fun k => ?_
      rw [inode_Block.l0, if_neg (by omega)]; rfl
    | succ d ih =>
      intro i n hi
      have hil : i < xs.length := by omega
      rw [List.drop_eq_getElem_cons hil, blockS]
      have go := ih (i + 1) (wrap64 (n + (xs[i]).f1)) (by omega)
      by_cases c : s ≥ (xs[i]).f0
      · rw [if_pos c]
        by_cases c2 : wrap64 (s - (xs[i]).f0) < (xs[i]).f1
        · rw [if_pos c2]
          refine Ev.from 1 fun k => ?_
          rw [inode_Block.l0, if_pos (by omega), if_pos (by omega), if_pos (by omega), rdX xs i hil, if_pos c, if_pos c2]
        · rw [if_neg c2]
          refine Ev.step (fun k => ?_) go
          rw [inode_Block.l0, if_pos (by omega), if_pos (by omega), if_pos (by omega), rdX xs i hil, if_pos c, if_neg c2, w64 (n := (i : Int) + 1) (by omega) (by omega)]
          rfl
      · rw [if_neg c]
        refine Ev.step (fun k => ?_) go
        rw [inode_Block.l0, if_pos (by omega), if_pos (by omega), if_pos (by omega), rdX xs i hil, if_neg c, w64 (n := (i : Int) + 1) (by omega) (by omega)]
        rfl
  have := lp xs.length 0 0 (by omega)
  rw [List.drop_zero] at this
  exact this
/-- A number's place in a list; -1. -/
def hasL : List Int → Int → Int → Int
  | [], _, _ => -1
  | y :: S, n, i => if y = n then i else hasL S n (i + 1)
theorem hasL_run (S : List Int) (s : Int) : ∀ (m : Nat) (a i : Int), hasL (((List.range m).map fun (k : Nat) => a + (k : Int)) ++ S) s i = if a ≤ s ∧ s < a + (m : Int) then i + (s - a) else hasL S s (i + (m : Int))
  | 0, a, i => by
    rw [if_neg (by omega)]
    simp
  | m + 1, a, i => by
    have e : ((List.range (m + 1)).map fun (k : Nat) => a + (k : Int)) ++ S = a :: (((List.range m).map fun (k : Nat) => (a + 1) + (k : Int)) ++ S) := by
      rw [List.range_succ_eq_map, List.map_cons, List.map_map]
      have : ((fun (k : Nat) => a + (k : Int)) ∘ Nat.succ) = fun (k : Nat) => (a + 1) + (k : Int) := by
        funext k
        show a + ((k + 1 : Nat) : Int) = _
        omega
      rw [this]
      show (a + ((0 : Nat) : Int)) :: _ = _
      rw [show a + ((0 : Nat) : Int) = a by omega]; rfl
    rw [e, hasL, hasL_run S s m (a + 1) (i + 1)]
    by_cases c : a = s
    · rw [if_pos c, if_pos (by omega)]; omega
    · rw [if_neg c]
      by_cases c2 : a + 1 ≤ s ∧ s < a + 1 + (m : Int)
      · rw [if_pos c2, if_pos (by omega)]; omega
      · rw [if_neg c2, if_neg (by omega)]
        congr 1; omega
theorem block_has : ∀ (xs : List EX) (s n : Int), (∀ e ∈ xs, okX e) → -9223372036854775808 ≤ s → s ≤ 9223372036854775807 → 0 ≤ n → n + (xs.length : Int) * 1000000 ≤ 1000000000000 → blockS xs s n = if 0 ≤ hasL (secs xs) s n then (hasL (secs xs) s n, true) else (0, false)
  | [], s, n, _, _, _, _, _ => by rw [blockS, secs, List.flatMap_nil, hasL, if_neg (by decide)]
  | e :: xs, s, n, hx, hs0, hs1, hn, hm => by
    obtain ⟨e0, e1, e2, e3⟩ := hx e (by simp)
    have hm' : n + ((xs.length : Int) + 1) * 1000000 ≤ 1000000000000 := by
      have : ((e :: xs).length : Int) = (xs.length : Int) + 1 := by simp
      rwa [this] at hm
    have ih := block_has xs s (n + e.f1) (fun y hy => hx y (by simp [hy])) hs0 hs1 (by omega) (by omega)
    rw [blockS, secs_cons]
    unfold runX
    rw [hasL_run (secs xs) s e.f1.toNat e.f0 n, show ((e.f1.toNat : Nat) : Int) = e.f1 by omega, w64 (n := n + e.f1) (by omega) (by omega)]
    by_cases c : s ≥ e.f0
    · rw [if_pos c, w64 (n := s - e.f0) (by omega) (by omega)]
      by_cases c2 : s - e.f0 < e.f1
      · rw [if_pos c2, if_pos (show e.f0 ≤ s ∧ s < e.f0 + e.f1 by omega), if_pos (by omega), w64 (n := n + s) (by omega) (by omega), w64 (by omega) (by omega)]
        congr 1; omega
      · rw [if_neg c2, if_neg (show ¬ (e.f0 ≤ s ∧ s < e.f0 + e.f1) by omega)]; exact ih
    · rw [if_neg c, if_neg (show ¬ (e.f0 ≤ s ∧ s < e.f0 + e.f1) by omega)]; exact ih
theorem size_ev (v : Int) (xs : List EX) (hl : xs.length ≤ 1000) (hx : ∀ e ∈ xs, okX e) : Ev (fun k => inode_Size.f k v xs) ((secs xs).length : Int) := by
  unfold inode_Size.f
  have lp : ∀ (d i : Nat) (n : Int), i + d = xs.length → 0 ≤ n → n ≤ (i : Int) * 1000000 → Ev (fun k => inode_Size.l0 k n xs (xs.length : Int) (i : Int)) (n + ((secs (xs.drop i)).length : Int)) := by
    intro d
    induction d with
    | zero =>
      intro i n hi _ _
      rw [List.drop_eq_nil_of_le (by omega)]
      refine Ev.from 1 fun k => ?_
      rw [inode_Size.l0, if_neg (by omega)]; simp [secs]
    | succ d ih =>
      intro i n hi h0 h1
      have hil : i < xs.length := by omega
      obtain ⟨e0, e1, e2, e3⟩ := hx xs[i] (List.getElem_mem hil)
      have go := ih (i + 1) (n + (xs[i]).f1) (by omega) (by omega) (by omega)
      rw [List.drop_eq_getElem_cons hil, secs_cons, List.length_append, runX_len]
      have e : n + ((((xs[i]).f1.toNat + (secs (xs.drop (i + 1))).length : Nat)) : Int) = n + (xs[i]).f1 + ((secs (xs.drop (i + 1))).length : Int) := by omega
      rw [e]
      refine Ev.step (fun k => ?_) go
      rw [inode_Size.l0, if_pos (by omega), if_pos (by omega), if_pos (by omega), rdX xs i hil, w64 (n := n + (xs[i]).f1) (by omega) (by omega), w64 (n := (i : Int) + 1) (by omega) (by omega)]
      rfl
  have := lp xs.length 0 0 (by omega) (by omega) (by omega)
  rw [List.drop_zero, Int.zero_add] at this
  exact this

/-! ### grow08 -/
theorem runX_add (a m n : Int) (hm : 0 ≤ m) (hn : 0 ≤ n) : runX a (m + n) = runX a m ++ runX (a + m) n := by
  unfold runX
  rw [show (m + n).toNat = m.toNat + n.toNat by omega, List.range_add, List.map_append, List.map_map]
  congr 1
  apply List.map_congr_left
  intro k _
  show a + ((m.toNat + k : Nat) : Int) = a + m + (k : Int)
  omega
/-- An extent within smaller bounds. -/
def okB (B : Int) (e : EX) : Prop := 0 ≤ e.f0 ∧ e.f0 ≤ 1023 ∧ 1 ≤ e.f1 ∧ e.f1 ≤ B
theorem okB_X {B : Int} {e : EX} (h : okB B e) (hB : B ≤ 100000) : okX e := ⟨h.1, by have := h.2.1; omega, h.2.2.1, by have := h.2.2.2; omega⟩
theorem any_some (a b : Int) : ∀ xs : List EX, ∃ m, anyMeets a b xs = some m
  | [] => ⟨false, rfl⟩
  | o :: xs => by
    have : ∃ t, inode_Extent_meets.f a b o.f0 o.f1 = some t := by
      unfold inode_Extent_meets.f
      split
      · exact ⟨_, rfl⟩
      · exact ⟨_, rfl⟩
    obtain ⟨t, ht⟩ := this
    obtain ⟨m, hm⟩ := any_some a b xs
    cases t with
    | true => exact ⟨true, by rw [anyMeets, ht]; rfl⟩
    | false => exact ⟨m, by rw [anyMeets, ht]; exact hm⟩
/-- Grow, at an extent that may be there: an error, or that behind. -/
theorem grow_ev (v : Int) (xs : List EX) (a b B : Int) (hB0 : 0 ≤ B) (hB : B ≤ 10000) (hl : xs.length ≤ 36) (hx : ∀ e ∈ xs, okB B e) (ha : 0 ≤ a ∧ a ≤ 1023) (hb : 1 ≤ b ∧ b ≤ 16) :
    ∃ g : Int × List EX × Option Int, Ev (fun k => inode_Grow.f k v xs a b) g ∧ (g.2.2 = none → secs g.2.1 = secs xs ++ runX a b ∧ g.2.1.length ≤ 36 ∧ ∀ e ∈ g.2.1, okB (B + 16) e) := by
  have hth : inode_Extent_there.f a b 2048 = some true := by
    unfold inode_Extent_there.f
    rw [if_pos (by omega), if_pos (by omega), if_pos (by omega), w64 (by omega) (by omega), decide_eq_true (by omega)]
  obtain ⟨m, hm⟩ := any_some a b xs
  have hme : inode_Inode_meets.f v xs a b = some m := by unfold inode_Inode_meets.f; rw [if_pos (by omega)]; exact hm
  have start : ∀ g, Ev (fun k => inode_Grow.j0 k m v xs a b) g → Ev (fun k => inode_Grow.f k v xs a b) g := fun g h => by
    unfold inode_Grow.f
    rw [hth]
    simp only [Option.bind_some, if_true]
    rw [hme]
    exact h
  cases m with
  | true => exact ⟨(0, [], some 1), start _ (Ev.from 1 fun k => by rw [inode_Grow.j0, if_pos rfl]), fun h => by cases h⟩
  | false =>
    have hcl : inode_Extent.f xs = some xs := by unfold inode_Extent.f; rw [if_pos (by omega)]
    have app : ∀ q, q = false → ∃ g : Int × List EX × Option Int, Ev (fun k => inode_Grow.j1 k xs (xs.length : Int) q v xs a b) g ∧ (g.2.2 = none → secs g.2.1 = secs xs ++ runX a b ∧ g.2.1.length ≤ 36 ∧ ∀ e ∈ g.2.1, okB (B + 16) e) := fun q hq => by
      subst hq
      by_cases c : (xs.length : Int) ≥ 36
      · exact ⟨(0, [], some 19), Ev.from 1 fun k => by rw [inode_Grow.j1, if_neg (by decide), if_pos c], fun h => by cases h⟩
      · refine ⟨(wrap64 (v + 1), xs ++ [⟨a, b⟩], none), Ev.from 1 fun k => ?_, fun _ => ⟨?_, by rw [List.length_append]; simp; omega, fun e he => ?_⟩⟩
        · rw [inode_Grow.j1, if_neg (by decide), if_neg c, if_pos (by omega)]; rfl
        · rw [secs_app]
          congr 1
          show runX a b ++ [] = _
          rw [List.append_nil]
        · rcases List.mem_append.1 he with h | h
          · obtain ⟨h1, h2, h3, h4⟩ := hx e h
            exact ⟨h1, h2, h3, by omega⟩
          · rw [List.mem_singleton] at h
            subst h
            exact ⟨ha.1, ha.2, hb.1, by show b ≤ B + 16; omega⟩
    have fin : ∀ q, (q = false → ∃ g : Int × List EX × Option Int, Ev (fun k => inode_Grow.j1 k xs (xs.length : Int) q v xs a b) g ∧ (g.2.2 = none → secs g.2.1 = secs xs ++ runX a b ∧ g.2.1.length ≤ 36 ∧ ∀ e ∈ g.2.1, okB (B + 16) e)) := app
    rcases List.eq_nil_or_concat xs with rfl | ⟨init, last, rfl⟩
    · obtain ⟨g, hg, hp⟩ := app false rfl
      refine ⟨g, start _ (Ev.step (fun k => ?_) hg), hp⟩
      rw [inode_Grow.j0, if_neg (by decide), hcl]
      simp only [Option.bind_some]
      rw [if_neg (by decide)]
    · rw [List.concat_eq_append] at *
      have hlen : (init ++ [last]).length = init.length + 1 := by simp
      obtain ⟨o1, o2, o3, o4⟩ := hx last (by simp)
      have hrd : rd_T46 (init ++ [last]) (init.length : Int) = last := by
        rw [rdX _ _ (by rw [hlen]; omega)]; simp
      have hq : ∀ g, Ev (fun k => inode_Grow.j1 k (init ++ [last]) ((init ++ [last]).length : Int) ((last.f0 + last.f1) == a) v (init ++ [last]) a b) g → Ev (fun k => inode_Grow.f k v (init ++ [last]) a b) g := fun g h => by
        refine start g (Ev.step (fun k => ?_) h)
        rw [inode_Grow.j0, if_neg (by decide), hcl]
        simp only [Option.bind_some]
        rw [if_pos (by rw [hlen]; omega), show wrap64 (((init ++ [last]).length : Int) - 1) = (init.length : Int) by rw [hlen]; rw [w64 (by omega) (by omega)]; omega, if_pos (by omega), if_pos (by rw [hlen]; omega), hrd, w64 (by omega) (by omega)]
      by_cases c : last.f0 + last.f1 = a
      · refine ⟨(wrap64 (v + 1), init ++ [⟨last.f0, last.f1 + b⟩], none), hq _ (Ev.from 1 fun k => ?_), fun _ => ⟨?_, ?_, fun e he => ?_⟩⟩
        · rw [beq_iff_eq.2 c, inode_Grow.j1, if_pos rfl, show wrap64 (((init ++ [last]).length : Int) - 1) = (init.length : Int) by rw [hlen]; rw [w64 (by omega) (by omega)]; omega, if_pos (by omega), if_pos (by rw [hlen]; omega), hrd, Int.toNat_natCast, w64 (n := last.f1 + b) (by omega) (by omega)]
          have : (init ++ [last]).set init.length (⟨last.f0, last.f1 + b⟩ : EX) = init ++ [⟨last.f0, last.f1 + b⟩] := by simp
          rw [this]; rfl
        · rw [secs_app, secs_app, List.append_assoc]
          congr 1
          show runX last.f0 (last.f1 + b) ++ [] = (runX last.f0 last.f1 ++ []) ++ runX a b
          rw [List.append_nil, List.append_nil, runX_add _ _ _ (by omega) (by omega), c]
        · simp at hl ⊢; omega
        · rcases List.mem_append.1 he with h | h
          · obtain ⟨h1, h2, h3, h4⟩ := hx e (by simp [h])
            exact ⟨h1, h2, h3, by omega⟩
          · rw [List.mem_singleton] at h
            subst h
            exact ⟨o1, o2, by show 1 ≤ last.f1 + b; omega, by show last.f1 + b ≤ B + 16; omega⟩
      · obtain ⟨g, hg, hp⟩ := app _ (beq_eq_false_iff_ne.2 c)
        exact ⟨g, hq g hg, hp⟩
theorem take_run (a m : Int) (r : Nat) (hm : 0 ≤ m) (hr : (r : Int) ≤ m) : (runX a m).take r = runX a (r : Int) := by
  unfold runX
  rw [← List.map_take, List.take_range, Int.toNat_natCast, Nat.min_eq_left (by omega)]
/-- What Cut leaves, and what it frees. -/
def cutL : List EX → Int → List EX
  | [], _ => []
  | e :: xs, r => (if mn e.f1 r > 0 then [⟨e.f0, mn e.f1 r⟩] else []) ++ cutL xs (wrap64 (r - mn e.f1 r))
def cutF : List EX → Int → List EX
  | [], _ => []
  | e :: xs, r => (if mn e.f1 r < e.f1 then [⟨wrap64 (e.f0 + mn e.f1 r), wrap64 (e.f1 - mn e.f1 r)⟩] else []) ++ cutF xs (wrap64 (r - mn e.f1 r))
theorem cutL_len : ∀ (xs : List EX) (r : Int), (cutL xs r).length ≤ xs.length
  | [], _ => by rw [cutL]; exact Nat.le_refl _
  | e :: xs, r => by
    have ih := cutL_len xs (wrap64 (r - mn e.f1 r))
    rw [cutL, List.length_append, List.length_cons]
    split
    · rw [List.length_singleton]; omega
    · rw [List.length_nil]; omega
theorem cutF_len : ∀ (xs : List EX) (r : Int), (cutF xs r).length ≤ xs.length
  | [], _ => by rw [cutF]; exact Nat.le_refl _
  | e :: xs, r => by
    have ih := cutF_len xs (wrap64 (r - mn e.f1 r))
    rw [cutF, List.length_append, List.length_cons]
    split
    · rw [List.length_singleton]; omega
    · rw [List.length_nil]; omega
/-- The walk of Cut. -/
theorem cut_walk (v : Int) (ys : List EX) (hl : ys.length ≤ 1000000) : ∀ (d i : Nat) (r : Int) (Z F : List EX), i + d = ys.length → Z.length ≤ i → F.length ≤ i → Ev (fun k => inode_Cut.l0 k r Z F ys (ys.length : Int) (i : Int) v ys) (if ((F ++ cutF (ys.drop i) r).length : Int) = 0 then (v, Z ++ cutL (ys.drop i) r, [], none) else (wrap64 (v + 1), Z ++ cutL (ys.drop i) r, F ++ cutF (ys.drop i) r, none)) := by
  intro d
  induction d with
  | zero =>
    intro i r Z F hi hZ hF
    rw [List.drop_eq_nil_of_le (by omega), cutL, cutF, List.append_nil, List.append_nil]
    refine Ev.from 1 fun k => ?_
    rw [inode_Cut.l0, if_neg (by omega)]
    by_cases c : (F.length : Int) = 0
    · rw [if_pos c, if_pos c]
    · rw [if_neg c, if_neg c]; rfl
  | succ d ih =>
    intro i r Z F hi hZ hF
    have hil : i < ys.length := by omega
    have hX0 := rdX ys i hil
    have c0 : (i : Int) < (ys.length : Int) := by omega
    have c00 : (0 : Int) ≤ (i : Int) := by omega
    have cZ : Z.length < 8796093022208 := by omega
    have cF : F.length < 8796093022208 := by omega
    have wi_ : wrap64 ((i : Int) + 1) = ((i + 1 : Nat) : Int) := by rw [w64 (by omega) (by omega)]; rfl
    rw [List.drop_eq_getElem_cons hil, cutL, cutF]
    generalize ys[i]'hil = q at hX0 ⊢
    have next : ∀ (Z' F' : List EX), Z'.length ≤ i + 1 → F'.length ≤ i + 1 → Ev (fun k => inode_Cut.l0 k (wrap64 (r - mn q.f1 r)) Z' F' ys (ys.length : Int) ((i + 1 : Nat) : Int) v ys) (if ((F' ++ cutF (ys.drop (i + 1)) (wrap64 (r - mn q.f1 r))).length : Int) = 0 then (v, Z' ++ cutL (ys.drop (i + 1)) (wrap64 (r - mn q.f1 r)), [], none) else (wrap64 (v + 1), Z' ++ cutL (ys.drop (i + 1)) (wrap64 (r - mn q.f1 r)), F' ++ cutF (ys.drop (i + 1)) (wrap64 (r - mn q.f1 r)), none)) := fun Z' F' hZ' hF' => ih (i + 1) _ Z' F' (by omega) hZ' hF'
    clear ih
    generalize hm : mn q.f1 r = m at next ⊢
    by_cases c1 : m > 0
    · by_cases c2 : m < q.f1
      · simp only [if_pos c1, if_pos c2, ← List.append_assoc, List.append_nil]
        refine Ev.step (fun k => ?_) (next (Z ++ [⟨q.f0, m⟩]) (F ++ [⟨wrap64 (q.f0 + m), wrap64 (q.f1 - m)⟩]) (by rw [List.length_append, List.length_singleton]; omega) (by rw [List.length_append, List.length_singleton]; omega))
        rw [inode_Cut.l0, if_pos c0, if_pos c00, if_pos c0, hX0, hm, if_pos c1, if_pos cZ, Option.bind_some, if_pos c2, if_pos cF, wi_]
      · simp only [if_pos c1, if_neg c2, ← List.append_assoc, List.append_nil]
        refine Ev.step (fun k => ?_) (next (Z ++ [⟨q.f0, m⟩]) F (by rw [List.length_append, List.length_singleton]; omega) (by omega))
        rw [inode_Cut.l0, if_pos c0, if_pos c00, if_pos c0, hX0, hm, if_pos c1, if_pos cZ, Option.bind_some, if_neg c2, wi_]
    · by_cases c2 : m < q.f1
      · simp only [if_neg c1, if_pos c2, ← List.append_assoc, List.append_nil]
        refine Ev.step (fun k => ?_) (next Z (F ++ [⟨wrap64 (q.f0 + m), wrap64 (q.f1 - m)⟩]) (by omega) (by rw [List.length_append, List.length_singleton]; omega))
        rw [inode_Cut.l0, if_pos c0, if_pos c00, if_pos c0, hX0, hm, if_neg c1, if_pos c2, if_pos cF, wi_]
      · simp only [if_neg c1, if_neg c2, ← List.append_assoc, List.append_nil]
        refine Ev.step (fun k => ?_) (next Z F (by omega) (by omega))
        rw [inode_Cut.l0, if_pos c0, if_pos c00, if_pos c0, hX0, hm, if_neg c1, if_neg c2, wi_]
theorem mn_eq (a b : Int) : mn a b = if b < a then b else a := rfl
/-- The sectors that are left: the first ones. -/
theorem secs_cutL (B : Int) : ∀ (xs : List EX) (r : Int), (∀ e ∈ xs, okB B e) → B ≤ 100000 → 0 ≤ r → r ≤ 1000000000 → secs (cutL xs r) = (secs xs).take r.toNat ∧ ∀ e ∈ cutL xs r, okB B e
  | [], r, _, _, _, _ => by
    rw [cutL]
    exact ⟨by show [] = List.take _ []; rw [List.take_nil], fun e he => by cases he⟩
  | q :: xs, r, hx, hB, h0, h1 => by
    obtain ⟨o1, o2, o3, o4⟩ := hx q (by simp)
    have hx' : ∀ e ∈ xs, okB B e := fun e he => hx e (by simp [he])
    rw [cutL, secs_app, secs_cons, List.take_append, runX_len, mn_eq]
    by_cases c : r < q.f1
    · rw [if_pos c, w64 (by omega) (by omega), show r - r = 0 by omega]
      obtain ⟨p1, p2⟩ := secs_cutL B xs 0 hx' hB (by omega) (by omega)
      rw [p1, show r.toNat - q.f1.toNat = (0 : Int).toNat by omega]
      have tr := take_run q.f0 q.f1 r.toNat (by omega) (by omega)
      rw [tr]
      by_cases cz : r > 0
      · rw [if_pos cz]
        refine ⟨?_, fun e he => ?_⟩
        · congr 1
          show runX q.f0 r ++ [] = runX q.f0 ((r.toNat : Nat) : Int)
          rw [List.append_nil, show ((r.toNat : Nat) : Int) = r by omega]
        · rcases List.mem_append.1 he with h | h
          · rw [List.mem_singleton] at h; subst h
            exact ⟨o1, o2, by show 1 ≤ r; omega, by show r ≤ B; omega⟩
          · exact p2 e h
      · rw [if_neg cz]
        refine ⟨?_, fun e he => ?_⟩
        · congr 1
          rw [show ((r.toNat : Nat) : Int) = 0 by omega]; rfl
        · exact p2 e (by simpa using he)
    · rw [if_neg c, w64 (by omega) (by omega)]
      obtain ⟨p1, p2⟩ := secs_cutL B xs (r - q.f1) hx' hB (by omega) (by omega)
      rw [p1, if_pos (by omega), List.take_of_length_le (l := runX q.f0 q.f1) (by rw [runX_len]; omega), show r.toNat - q.f1.toNat = (r - q.f1).toNat by omega]
      refine ⟨?_, fun e he => ?_⟩
      · congr 1
        show runX q.f0 q.f1 ++ [] = _
        rw [List.append_nil]
      · rcases List.mem_append.1 he with h | h
        · rw [List.mem_singleton] at h; subst h
          exact ⟨o1, o2, o3, o4⟩
        · exact p2 e h
/-- Cut to so many blocks that there are: the first ones. -/
theorem cut_ev (v : Int) (ys : List EX) (B left : Int) (hB : B ≤ 100000) (hl : ys.length ≤ 36) (hx : ∀ e ∈ ys, okB B e) (h0 : 0 ≤ left) (h1 : left ≤ ((secs ys).length : Int)) (h2 : (secs ys).length ≤ 100000000) :
    ∃ g : Int × List EX × List EX × Option Int, Ev (fun k => inode_Cut.f k v ys left) g ∧ g.2.2.2 = none ∧ secs g.2.1 = (secs ys).take left.toNat ∧ g.2.1.length ≤ 36 ∧ ∀ e ∈ g.2.1, okB B e := by
  have hX : ∀ e ∈ ys, okX e := fun e he => okB_X (hx e he) hB
  have hsz := size_ev v ys (by omega) hX
  have hw := cut_walk v ys (by omega) ys.length 0 left [] [] (by omega) (by simp) (by simp)
  rw [List.drop_zero, List.nil_append, List.nil_append] at hw
  obtain ⟨p2, p4⟩ := secs_cutL B ys left hx hB h0 (by omega)
  have p3 := cutL_len ys left
  refine ⟨if ((cutF ys left).length : Int) = 0 then (v, cutL ys left, [], none) else (wrap64 (v + 1), cutL ys left, cutF ys left, none), ?_, ?_⟩
  · unfold inode_Cut.f
    simp only [if_neg (show ¬ left < 0 by omega)]
    refine Ev.bind hsz ?_
    rw [decide_eq_false (by omega)]
    exact Ev.step (fun k => by rw [inode_Cut.j0, if_neg (by decide)]; rfl) hw
  · split
    · exact ⟨rfl, p2, by show (cutL ys left).length ≤ 36; omega, p4⟩
    · exact ⟨rfl, p2, by show (cutL ys left).length ≤ 36; omega, p4⟩

/-! ### andm -/
theorem andm (a : Int) (m : Nat) (hm : m < 4611686018427387904) (n : Nat) (hn : 2 ^ n = m + 1) : Go.bits .and .i64 a (m : Int) = a % ((m + 1 : Nat) : Int) := by
  have ha : (BitVec.ofInt 64 a).toNat = (a % 18446744073709551616).toNat := by
    rw [BitVec.toNat_ofInt]; rfl
  show IntKind.i64.wrap ((BitVec.ofInt 64 a &&& BitVec.ofInt 64 (m : Int)).toNat : Int) = _
  rw [BitVec.toNat_and, show (BitVec.ofInt 64 (m : Int)).toNat = m by rw [BitVec.ofInt_natCast, BitVec.toNat_ofNat, Nat.mod_eq_of_lt (by omega)], ha]
  have e : (a % 18446744073709551616).toNat &&& m = (a % 18446744073709551616).toNat % (m + 1) := by
    rw [← hn, show m = 2 ^ n - 1 by omega]; exact Nat.and_two_pow_sub_one_eq_mod _ n
  rw [e]
  have hlt : (a % 18446744073709551616).toNat % (m + 1) < m + 1 := Nat.mod_lt _ (by omega)
  have hdv : ((m + 1 : Nat) : Int) ∣ 18446744073709551616 := by
    rw [← hn]
    have h64 : n ≤ 64 := by
      rcases Nat.lt_or_ge 64 n with h | h
      · have := Nat.pow_le_pow_right (show 0 < 2 by decide) (show 65 ≤ n by omega)
        omega
      · exact h
    have : ((2 ^ n : Nat) : Int) ∣ ((2 ^ 64 : Nat) : Int) := Int.natCast_dvd_natCast.2 (Nat.pow_dvd_pow 2 h64)
    exact this
  have e2 : (((a % 18446744073709551616).toNat % (m + 1) : Nat) : Int) = a % ((m + 1 : Nat) : Int) := by
    rw [Int.natCast_emod, Int.toNat_of_nonneg (by omega), Int.emod_emod_of_dvd _ hdv]
  rw [e2]
  have h1 := Int.emod_nonneg a (show ((m + 1 : Nat) : Int) ≠ 0 by omega)
  have h2 := Int.emod_lt_of_pos a (show (0 : Int) < ((m + 1 : Nat) : Int) by omega)
  have hm1 : ((m + 1 : Nat) : Int) = (m : Int) + 1 := by omega
  rw [hm1] at h1 h2 ⊢
  generalize a % ((m : Int) + 1) = q at *
  simp only [IntKind.wrap, IntKind.bits, IntKind.signed]
  simp; omega

/-! ### InodeKeeps -/
abbrev LX := S41
theorem secs_bound (B : Int) (hB : 0 ≤ B) : ∀ (xs : List EX), (∀ e ∈ xs, okB B e) → ((secs xs).length : Int) ≤ (xs.length : Int) * B
  | [], _ => by simp [secs]
  | e :: xs, h => by
    have ih := secs_bound B hB xs (fun y hy => h y (by simp [hy]))
    obtain ⟨h1, h2, h3, h4⟩ := h e (by simp)
    rw [secs_cons, List.length_append, runX_len]
    have : ((e :: xs).length : Int) * B = (xs.length : Int) * B + B := by
      rw [List.length_cons, Int.natCast_add, Int.add_mul]; simp
    rw [this]; omega
theorem map_at (v : Int) (xs : List EX) (hl : xs.length ≤ 36) (hx : ∀ e ∈ xs, okX e) (i : Nat) (hi : i < 100000000) : Ev (fun k => inode_Map.f k v xs (i : Int)) (if i < (secs xs).length then ((secs xs).getD i 0, true) else (0, false)) := by
  have h := map_ev v xs (by omega) (i : Int)
  rw [if_neg (by omega), mapS_secs xs (i : Int) hx (by omega) (by omega), Int.toNat_natCast] at h
  by_cases c : i < (secs xs).length
  · rw [if_pos c]; rw [if_pos (by omega)] at h; exact h
  · rw [if_neg c]; rw [if_neg (by omega)] at h; exact h
theorem keeps_loop (vx vy vz : Int) (xs ys zs : List EX) (hxl : xs.length ≤ 36) (hyl : ys.length ≤ 36) (hzl : zs.length ≤ 36) (hx : ∀ e ∈ xs, okX e) (hy : ∀ e ∈ ys, okX e) (hz : ∀ e ∈ zs, okX e) (left : Int) (hn : (secs xs).length ≤ 1000000) (hpre : ∃ t, secs ys = secs xs ++ t) (hcut : secs zs = (secs ys).take left.toNat) (h0 : 0 ≤ left) (h1 : left ≤ ((secs xs).length : Int)) :
    ∀ (d i : Nat), i + d = (secs xs).length → Ev (fun k => posthorselaw08_InodeKeeps.l1 k vx xs vy ys vz zs ((secs xs).length : Int) left i) true := by
  obtain ⟨t, ht⟩ := hpre
  intro d
  induction d with
  | zero =>
    intro i hi
    exact Ev.from 1 fun k => by rw [posthorselaw08_InodeKeeps.l1, if_neg (by omega)]
  | succ d ih =>
    intro i hi
    have hyl2 : (secs ys).length = (secs xs).length + t.length := by rw [ht, List.length_append]
    have ma := map_at vx xs hxl hx i (by omega)
    have mb := map_at vy ys hyl hy i (by omega)
    have mc := map_at vz zs hzl hz i (by omega)
    rw [if_pos (by omega)] at ma mb
    have exy : (secs ys).getD i 0 = (secs xs).getD i 0 := by
      rw [ht, List.getD_eq_getElem?_getD, List.getElem?_append_left (by omega), ← List.getD_eq_getElem?_getD]
    have hzn : (secs zs).length = left.toNat := by rw [hcut, List.length_take]; omega
    rw [exy] at mb
    refine Ev.step (f := fun k => (inode_Map.f k vx xs (i : Int)).bind fun a => (inode_Map.f k vy ys (i : Int)).bind fun b => (inode_Map.f k vz zs (i : Int)).bind fun c => if a.2 = true ∧ b.2 = true ∧ a.1 = b.1 ∧ c.2 = decide ((i : Int) < left) ∧ (c.2 = true → a.1 = c.1) then posthorselaw08_InodeKeeps.l1 k vx xs vy ys vz zs ((secs xs).length : Int) left (i + 1) else none) (fun k => by rw [posthorselaw08_InodeKeeps.l1, if_pos (by omega)]) ?_
    refine Ev.bind ma (Ev.bind mb (Ev.bind mc ?_))
    obtain ⟨K, hK⟩ := ih (i + 1) (by omega)
    refine ⟨K, fun k hk => ?_⟩
    show (if _ then posthorselaw08_InodeKeeps.l1 k vx xs vy ys vz zs ((secs xs).length : Int) left (i + 1) else none) = some true
    rw [if_pos]
    · exact hK k hk
    · refine ⟨rfl, rfl, rfl, ?_, ?_⟩
      · rw [hzn]
        by_cases c : i < left.toNat
        · rw [if_pos c, decide_eq_true (by omega)]
        · rw [if_neg c, decide_eq_false (by omega)]
      · rw [hzn]
        by_cases c : i < left.toNat
        · rw [if_pos c]
          intro _
          show (secs xs).getD i 0 = (secs zs).getD i 0
          rw [hcut, List.getD_eq_getElem?_getD (l := (secs ys).take left.toNat), List.getElem?_take, if_pos c, ← List.getD_eq_getElem?_getD, exy]
        · rw [if_neg c]
          intro h
          cases h
theorem keeps_end (vx vy : Int) (xs ys : List EX) (cut : Int) (hxl : xs.length ≤ 36) (hyl : ys.length ≤ 36) (hx : ∀ e ∈ xs, okB 1000 e) (hy : ∀ e ∈ ys, okB 1000 e) (hpre : ∃ t, secs ys = secs xs ++ t) : Ev (fun k => keepsEnd k vx xs vy ys cut ((secs xs).length : Int)) true := by
  have b1 := secs_bound 1000 (by decide) xs hx
  have b2 := secs_bound 1000 (by decide) ys hy
  have hpre' := hpre
  obtain ⟨t, ht⟩ := hpre
  have hyl2 : (secs ys).length = (secs xs).length + t.length := by rw [ht, List.length_append]
  obtain ⟨_, _, _, k4, k5⟩ := keepsLeft_ok cut ((secs xs).length : Int) (by omega) (by omega)
  obtain ⟨g, hg, p1, p2, p3, p4⟩ := cut_ev vy ys 1000 (keepsLeft cut ((secs xs).length : Int)) (by decide) hyl hy k4 (by omega) (by omega)
  unfold keepsEnd
  refine Ev.bind hg ?_
  simp only [if_pos p1]
  have hzs := size_ev g.1 g.2.1 (by omega) (fun e he => okB_X (p4 e he) (by decide))
  have hzn : ((secs g.2.1).length : Int) = keepsLeft cut ((secs xs).length : Int) := by rw [p2, List.length_take]; omega
  rw [hzn] at hzs
  refine Ev.bind hzs ?_
  simp only [if_true]
  exact keeps_loop vx vy g.1 xs ys g.2.1 hxl hyl p3 (fun e he => okB_X (hx e he) (by decide)) (fun e he => okB_X (hy e he) (by decide)) (fun e he => okB_X (p4 e he) (by decide)) _ (by omega) hpre' p2 k4 k5 (secs xs).length 0 (by omega)
theorem okB_up {B C : Int} {e : EX} (h : okB B e) (hB : B ≤ C) : okB C e := ⟨h.1, h.2.1, h.2.2.1, by have := h.2.2.2; omega⟩
theorem bits_of (a b : Int) : (0 ≤ Go.bits .and .i64 a 1023 ∧ Go.bits .and .i64 a 1023 ≤ 1023) ∧ 1 ≤ wrap64 (1 + Go.bits .and .i64 b 15) ∧ wrap64 (1 + Go.bits .and .i64 b 15) ≤ 16 := by
  have h1 := andm a 1023 (by decide) 10 (by decide)
  have h2 := andm b 15 (by decide) 4 (by decide)
  rw [show Go.bits .and .i64 a 1023 = a % 1024 from h1, show Go.bits .and .i64 b 15 = b % 16 from h2, w64 (by omega) (by omega)]
  omega
theorem keeps_go (l : List LX) (m1 m2 cut : Int) : ∀ (d i : Nat) (v : Int) (xs : List EX), i + d = 30 → xs.length ≤ 36 → (∀ e ∈ xs, okB (16 * (i : Int)) e) → Ev (fun k => posthorselaw08_InodeKeeps.l0 k l m1 m2 cut v xs i) true := by
  have tail : ∀ (i : Nat) (v : Int) (xs : List EX), i ≤ 30 → xs.length ≤ 36 → (∀ e ∈ xs, okB (16 * (i : Int)) e) → Ev (fun k => keepsTail k m1 m2 cut v xs) true := by
    intro i v xs hi hl hx
    have hx5 : ∀ e ∈ xs, okB 1000 e := fun e he => okB_up (hx e he) (by omega)
    have b1 := secs_bound 1000 (by decide) xs hx5
    unfold keepsTail
    refine Ev.bind (size_ev v xs (by omega) (fun e he => okB_X (hx5 e he) (by decide))) ?_
    simp only [if_pos (show 0 ≤ ((secs xs).length : Int) ∧ ((secs xs).length : Int) < 1000000 by omega)]
    obtain ⟨⟨p1, p2⟩, p3, p4⟩ := bits_of m1 m2
    obtain ⟨⟨gv, ys, ge⟩, hg, hp⟩ := grow_ev v xs _ _ (16 * (i : Int)) (by omega) (by omega) hl hx ⟨p1, p2⟩ ⟨p3, p4⟩
    refine Ev.bind hg ?_
    cases ge with
    | none =>
      obtain ⟨q1, q2, q3⟩ := hp rfl
      exact keeps_end v gv xs ys cut hl q2 hx5 (fun e he => okB_up (q3 e he) (by omega)) ⟨_, q1⟩
    | some e => exact keeps_end v v xs xs cut hl hl hx5 hx5 ⟨[], by rw [List.append_nil]⟩
  intro d
  induction d with
  | zero =>
    intro i v xs hi hl hx
    exact Ev.step (fun k => by rw [posthorselaw08_InodeKeeps.l0, if_neg (by omega)]) (tail i v xs (by omega) hl hx)
  | succ d ih =>
    intro i v xs hi hl hx
    by_cases c : i < l.length ∧ i < 30
    · obtain ⟨⟨p1, p2⟩, p3, p4⟩ := bits_of (rd_T41 l (i : Int)).f0 (rd_T41 l (i : Int)).f1
      obtain ⟨⟨gv, ys, ge⟩, hg, hp⟩ := grow_ev v xs _ _ (16 * (i : Int)) (by omega) (by omega) hl hx ⟨p1, p2⟩ ⟨p3, p4⟩
      refine Ev.step (f := fun k => (inode_Grow.f k v xs (Go.bits .and .i64 (rd_T41 l (i : Int)).f0 1023) (wrap64 (1 + Go.bits .and .i64 (rd_T41 l (i : Int)).f1 15))).bind fun g => match g with | (v, ys, none) => posthorselaw08_InodeKeeps.l0 k l m1 m2 cut v ys (i + 1) | (_, _, some _) => posthorselaw08_InodeKeeps.l0 k l m1 m2 cut v xs (i + 1)) (fun k => by rw [posthorselaw08_InodeKeeps.l0, if_pos c]; rfl) ?_
      refine Ev.bind hg ?_
      cases ge with
      | none =>
        obtain ⟨q1, q2, q3⟩ := hp rfl
        exact ih (i + 1) gv ys (by omega) q2 (fun e he => okB_up (q3 e he) (by omega))
      | some e => exact ih (i + 1) v xs (by omega) hl (fun e he => okB_up (hx e he) (by omega))
    · exact Ev.step (fun k => by rw [posthorselaw08_InodeKeeps.l0, if_neg c]) (tail i v xs (by omega) hl hx)
theorem InodeKeeps : InodeKeeps.Pure := by
  intro l0 a1_0 a1_1 a2 _ _ _ _
  refine Ev.rounds (g := fun k => posthorselaw08_InodeKeeps.f k l0 a1_0 a1_1 a2) ?_
  unfold posthorselaw08_InodeKeeps.f
  refine Ev.bind speaks08_ev ?_
  simp only [if_true]
  refine Ev.bind (keeps_go l0 a1_0 a1_1 a2 30 0 0 [] (by omega) (by simp) (fun e he => by cases he)) ?_
  simp only [if_true]
  exact Ev.now _

end Go.Proofs.Ytmncfcebjohloaa.Pure
