/- InodePlays: the pure law; for every input, no condition. -/
import Derived.Test.YtmncfcebjohloaaDoorVInodePlaysx18
import Derived.OpenShut
import Derived.Lib.IndexEntry
namespace Go.Proofs.YtmncfcebjohloaaDoor.Pure
open Go Go.RowKit Go.Proofs.YtmncfcebjohloaaDoor.VInodePlays Go.Proofs.YtmncfcebjohloaaDoorW.PrintWords Go.Proofs.YtmncfcebjohloaaDoorW.PrintLast
set_option linter.unusedSimpArgs false
set_option linter.unusedVariables false

def InodePlays.Pure : Prop := ∀ (l0 : List (S31)), (l0.length * 24 ≤ 140737488351232 ∧ l0.length ≤ maxLen ∧ ∀ l0y ∈ l0, ((Lit.int .i64 l0y.f0).wf = true ∧ (Lit.int .i64 l0y.f1).wf = true ∧ (Lit.int .i64 l0y.f2).wf = true)) → ∃ k, posthorselaw08_InodePlays.f k l0 = some true
/-! ### base -/
theorem dl (s : ByteArray) : s.toList = s.data.toList := Lib.toList_data s
theorem deq {a b : ByteArray} : a = b ↔ a.data.toList = b.data.toList := ⟨fun h => by rw [h], fun h => Go.WideShapes.bytes_inj h⟩
theorem dapp (a b : ByteArray) : (a ++ b).data.toList = a.data.toList ++ b.data.toList := by simp
theorem dlen (a : ByteArray) : a.data.toList.length = a.size := by rw [Array.length_toList]; rfl
theorem w64 {n : Int} (h0 : -9223372036854775808 ≤ n) (h1 : n ≤ 9223372036854775807) : wrap64 n = n := by unfold wrap64; omega
theorem i64b {n : Int} (h : (Lit.int .i64 n).wf = true) : -9223372036854775808 ≤ n ∧ n ≤ 9223372036854775807 := bounds_i64 h
theorem u8w (n : Int) : IntKind.u8.wrap n = n % 256 := IntKind.wrap_u8 n
theorem Ev.all {α : Type} {g : Nat → Option α} {r : α} (h : ∀ k, g k = some r) : Ev g r := ⟨0, fun k _ => h k⟩
theorem Ev.bindS {α β : Type} {g : Nat → Option α} {f : Nat → α → Option β} {a : α} {r : β} (h : Ev g a) (k : Ev (fun n => f n a) r) : Ev (fun n => (g n).bind (f n)) r := Ev.bind h k
theorem Ev.from {α : Type} {g : Nat → Option α} {r : α} (j : Nat) (h : ∀ k, g (k + j) = some r) : Ev g r := ⟨j, fun k hk => by have := h (k - j); rwa [Nat.sub_add_cancel hk] at this⟩
theorem Ev.to {α : Type} {g : Nat → Option α} {r : α} (h : Ev g r) : ∃ k, g k = some r := h.rounds
theorem Ev.at_ {α : Type} {g : Nat → Option α} {r : α} (hg : ∀ k, LeO (g k) (g (k + 1))) {j : Nat} (h : g j = some r) : Ev g r := Ev.of hg h

/-! ### speaks08 -/
theorem speaks08_ev : Ev (fun k => posthorselaw08_speaks.f k) true := Ev.at_ (fun k => posthorselaw08_speaks.mono k) (j := 20) (by decide +kernel)

/-! ### ext08 -/
/-- The sectors of an extent. -/
def runX (a n : Int) : List Int := (List.range n.toNat).map fun (k : Nat) => a + (k : Int)
theorem runX_len (a n : Int) : (runX a n).length = n.toNat := by simp [runX]
theorem runX_get (a n : Int) (j : Nat) (h : j < n.toNat) : (runX a n).getD j 0 = a + (j : Int) := by
  unfold runX
  rw [List.getD_eq_getElem?_getD, List.getElem?_map, List.getElem?_range h]; rfl
abbrev EX := S40
/-- The sectors of all. -/
def secs (xs : List EX) : List Int := xs.flatMap fun e => runX e.f0 e.f1
theorem secs_cons (e : EX) (xs : List EX) : secs (e :: xs) = runX e.f0 e.f1 ++ secs xs := rfl
theorem secs_app (xs ys : List EX) : secs (xs ++ ys) = secs xs ++ secs ys := by unfold secs; rw [List.flatMap_append]
/-- An extent within bounds. -/
def okX (e : EX) : Prop := 0 ≤ e.f0 ∧ e.f0 ≤ 1000000 ∧ 1 ≤ e.f1 ∧ e.f1 ≤ 1000000
/-- What Map answers. -/
def mapS : List EX → Int → Int × Bool
  | [], _ => (0, false)
  | e :: xs, b => if b < e.f1 then (wrap64 (e.f0 + b), true) else mapS xs (wrap64 (b - e.f1))
theorem mapS_secs : ∀ (xs : List EX) (b : Int), (∀ e ∈ xs, okX e) → 0 ≤ b → b ≤ 9223372036854775807 → mapS xs b = if b < ((secs xs).length : Int) then ((secs xs).getD b.toNat 0, true) else (0, false)
  | [], b, _, h0, _ => by rw [mapS, if_neg (by simp [secs]; omega)]
  | e :: xs, b, hx, h0, h1 => by
    obtain ⟨e0, e1, e2, e3⟩ := hx e (by simp)
    have hl : (secs (e :: xs)).length = e.f1.toNat + (secs xs).length := by rw [secs_cons, List.length_append, runX_len]
    rw [mapS]
    by_cases c : b < e.f1
    · rw [if_pos c, if_pos (by omega), w64 (by omega) (by omega)]
      congr 1
      rw [secs_cons, List.getD_eq_getElem?_getD, List.getElem?_append_left (by rw [runX_len]; omega), ← List.getD_eq_getElem?_getD, runX_get _ _ _ (by omega)]
      omega
    · rw [if_neg c, w64 (by omega) (by omega), mapS_secs xs (b - e.f1) (fun y hy => hx y (by simp [hy])) (by omega) (by omega)]
      by_cases c2 : b - e.f1 < ((secs xs).length : Int)
      · rw [if_pos c2, if_pos (by omega)]
        congr 1
        rw [secs_cons, List.getD_eq_getElem?_getD, List.getD_eq_getElem?_getD, List.getElem?_append_right (by rw [runX_len]; omega), runX_len]
        congr 2
        omega
      · rw [if_neg c2, if_neg (by omega)]
theorem rdX (xs : List EX) (i : Nat) (h : i < xs.length) : rd_T40 xs (i : Int) = xs[i] := by
  unfold rd_T40
  rw [Int.toNat_natCast, List.getD_eq_getElem?_getD, List.getElem?_eq_getElem h]; rfl
theorem map_ev (v : Int) (xs : List EX) (hl : xs.length ≤ 1000000) (b : Int) : Ev (fun k => inode_Map.f k v xs b) (if b < 0 then (0, false) else mapS xs b) := by
  unfold inode_Map.f
  by_cases h0 : b < 0
  · simp only [if_pos h0]; exact Ev.now _
  · simp only [if_neg h0]
    have lp : ∀ (d i : Nat) (b : Int), i + d = xs.length → Ev (fun k => inode_Map.l0 k b xs (xs.length : Int) (i : Int)) (mapS (xs.drop i) b) := by
      intro d
      induction d with
      | zero =>
        intro i b hi
        rw [List.drop_eq_nil_of_le (by omega)]
        refine Ev.from 1 fun k => ?_
        rw [inode_Map.l0, if_neg (by omega)]; rfl
      | succ d ih =>
        intro i b hi
        have hil : i < xs.length := by omega
        rw [List.drop_eq_getElem_cons hil, mapS]
        by_cases c : b < (xs[i]).f1
        · rw [if_pos c]
          refine Ev.from 1 fun k => ?_
          rw [inode_Map.l0, if_pos (by omega), if_pos (by omega), if_pos (by omega), rdX xs i hil, if_pos c]
        · rw [if_neg c]
          refine Ev.step (fun k => ?_) (ih (i + 1) _ (by omega))
          rw [inode_Map.l0, if_pos (by omega), if_pos (by omega), if_pos (by omega), rdX xs i hil, if_neg c, w64 (n := (i : Int) + 1) (by omega) (by omega)]
          rfl
    have := lp xs.length 0 b (by omega)
    rw [List.drop_zero] at this
    exact this
/-- What Block answers. -/
def blockS : List EX → Int → Int → Int × Bool
  | [], _, _ => (0, false)
  | e :: xs, s, n => if s ≥ e.f0 then (if wrap64 (s - e.f0) < e.f1 then (wrap64 (wrap64 (n + s) - e.f0), true) else blockS xs s (wrap64 (n + e.f1))) else blockS xs s (wrap64 (n + e.f1))
theorem block_ev (v : Int) (xs : List EX) (hl : xs.length ≤ 1000000) (s : Int) : Ev (fun k => inode_Block.f k v xs s) (blockS xs s 0) := by
  unfold inode_Block.f
  have lp : ∀ (d i : Nat) (n : Int), i + d = xs.length → Ev (fun k => inode_Block.l0 k s n xs (xs.length : Int) (i : Int)) (blockS (xs.drop i) s n) := by
    intro d
    induction d with
    | zero =>
      intro i n hi
      rw [List.drop_eq_nil_of_le (by omega)]
      refine Ev.from 1 fun k => ?_
      rw [inode_Block.l0, if_neg (by omega)]; rfl
    | succ d ih =>
      intro i n hi
      have hil : i < xs.length := by omega
      rw [List.drop_eq_getElem_cons hil, blockS]
      have go := ih (i + 1) (wrap64 (n + (xs[i]).f1)) (by omega)
      by_cases c : s ≥ (xs[i]).f0
      · rw [if_pos c]
        by_cases c2 : wrap64 (s - (xs[i]).f0) < (xs[i]).f1
        · rw [if_pos c2]
          refine Ev.from 1 fun k => ?_
          rw [inode_Block.l0, if_pos (by omega), if_pos (by omega), if_pos (by omega), rdX xs i hil, if_pos c, if_pos c2]
        · rw [if_neg c2]
          refine Ev.step (fun k => ?_) go
          rw [inode_Block.l0, if_pos (by omega), if_pos (by omega), if_pos (by omega), rdX xs i hil, if_pos c, if_neg c2, w64 (n := (i : Int) + 1) (by omega) (by omega)]
          rfl
      · rw [if_neg c]
        refine Ev.step (fun k => ?_) go
        rw [inode_Block.l0, if_pos (by omega), if_pos (by omega), if_pos (by omega), rdX xs i hil, if_neg c, w64 (n := (i : Int) + 1) (by omega) (by omega)]
        rfl
  have := lp xs.length 0 0 (by omega)
  rw [List.drop_zero] at this
  exact this
/-- A number's place in a list; -1. -/
def hasL : List Int → Int → Int → Int
  | [], _, _ => -1
  | y :: S, n, i => if y = n then i else hasL S n (i + 1)
theorem hasL_run (S : List Int) (s : Int) : ∀ (m : Nat) (a i : Int), hasL (((List.range m).map fun (k : Nat) => a + (k : Int)) ++ S) s i = if a ≤ s ∧ s < a + (m : Int) then i + (s - a) else hasL S s (i + (m : Int))
  | 0, a, i => by
    rw [if_neg (by omega)]
    simp
  | m + 1, a, i => by
    have e : ((List.range (m + 1)).map fun (k : Nat) => a + (k : Int)) ++ S = a :: (((List.range m).map fun (k : Nat) => (a + 1) + (k : Int)) ++ S) := by
      rw [List.range_succ_eq_map, List.map_cons, List.map_map]
      have : ((fun (k : Nat) => a + (k : Int)) ∘ Nat.succ) = fun (k : Nat) => (a + 1) + (k : Int) := by
        funext k
        show a + ((k + 1 : Nat) : Int) = _
        omega
      rw [this]
      show (a + ((0 : Nat) : Int)) :: _ = _
      rw [show a + ((0 : Nat) : Int) = a by omega]; rfl
    rw [e, hasL, hasL_run S s m (a + 1) (i + 1)]
    by_cases c : a = s
    · rw [if_pos c, if_pos (by omega)]; omega
    · rw [if_neg c]
      by_cases c2 : a + 1 ≤ s ∧ s < a + 1 + (m : Int)
      · rw [if_pos c2, if_pos (by omega)]; omega
      · rw [if_neg c2, if_neg (by omega)]
        congr 1; omega
theorem block_has : ∀ (xs : List EX) (s n : Int), (∀ e ∈ xs, okX e) → -9223372036854775808 ≤ s → s ≤ 9223372036854775807 → 0 ≤ n → n + (xs.length : Int) * 1000000 ≤ 1000000000000 → blockS xs s n = if 0 ≤ hasL (secs xs) s n then (hasL (secs xs) s n, true) else (0, false)
  | [], s, n, _, _, _, _, _ => by rw [blockS, secs, List.flatMap_nil, hasL, if_neg (by decide)]
  | e :: xs, s, n, hx, hs0, hs1, hn, hm => by
    obtain ⟨e0, e1, e2, e3⟩ := hx e (by simp)
    have hm' : n + ((xs.length : Int) + 1) * 1000000 ≤ 1000000000000 := by
      have : ((e :: xs).length : Int) = (xs.length : Int) + 1 := by simp
      rwa [this] at hm
    have ih := block_has xs s (n + e.f1) (fun y hy => hx y (by simp [hy])) hs0 hs1 (by omega) (by omega)
    rw [blockS, secs_cons]
    unfold runX
    rw [hasL_run (secs xs) s e.f1.toNat e.f0 n, show ((e.f1.toNat : Nat) : Int) = e.f1 by omega, w64 (n := n + e.f1) (by omega) (by omega)]
    by_cases c : s ≥ e.f0
    · rw [if_pos c, w64 (n := s - e.f0) (by omega) (by omega)]
      by_cases c2 : s - e.f0 < e.f1
      · rw [if_pos c2, if_pos (show e.f0 ≤ s ∧ s < e.f0 + e.f1 by omega), if_pos (by omega), w64 (n := n + s) (by omega) (by omega), w64 (by omega) (by omega)]
        congr 1; omega
      · rw [if_neg c2, if_neg (show ¬ (e.f0 ≤ s ∧ s < e.f0 + e.f1) by omega)]; exact ih
    · rw [if_neg c, if_neg (show ¬ (e.f0 ≤ s ∧ s < e.f0 + e.f1) by omega)]; exact ih
theorem size_ev (v : Int) (xs : List EX) (hl : xs.length ≤ 1000) (hx : ∀ e ∈ xs, okX e) : Ev (fun k => inode_Size.f k v xs) ((secs xs).length : Int) := by
  unfold inode_Size.f
  have lp : ∀ (d i : Nat) (n : Int), i + d = xs.length → 0 ≤ n → n ≤ (i : Int) * 1000000 → Ev (fun k => inode_Size.l0 k n xs (xs.length : Int) (i : Int)) (n + ((secs (xs.drop i)).length : Int)) := by
    intro d
    induction d with
    | zero =>
      intro i n hi _ _
      rw [List.drop_eq_nil_of_le (by omega)]
      refine Ev.from 1 fun k => ?_
      rw [inode_Size.l0, if_neg (by omega)]; simp [secs]
    | succ d ih =>
      intro i n hi h0 h1
      have hil : i < xs.length := by omega
      obtain ⟨e0, e1, e2, e3⟩ := hx xs[i] (List.getElem_mem hil)
      have go := ih (i + 1) (n + (xs[i]).f1) (by omega) (by omega) (by omega)
      rw [List.drop_eq_getElem_cons hil, secs_cons, List.length_append, runX_len]
      have e : n + ((((xs[i]).f1.toNat + (secs (xs.drop (i + 1))).length : Nat)) : Int) = n + (xs[i]).f1 + ((secs (xs.drop (i + 1))).length : Int) := by omega
      rw [e]
      refine Ev.step (fun k => ?_) go
      rw [inode_Size.l0, if_pos (by omega), if_pos (by omega), if_pos (by omega), rdX xs i hil, w64 (n := n + (xs[i]).f1) (by omega) (by omega), w64 (n := (i : Int) + 1) (by omega) (by omega)]
      rfl
  have := lp xs.length 0 0 (by omega) (by omega) (by omega)
  rw [List.drop_zero, Int.zero_add] at this
  exact this

/-! ### ref08 -/
abbrev RX := S39
def secsR (ys : List RX) : List Int := ys.flatMap fun e => runX e.f0 e.f1
theorem rdR (ys : List RX) (i : Nat) (h : i < ys.length) : rd_T39 ys (i : Int) = ys[i] := by
  unfold rd_T39
  rw [Int.toNat_natCast, List.getD_eq_getElem?_getD, List.getElem?_eq_getElem h]; rfl
/-- An extent that may be on a device of 2048 sectors. -/
def goodR (e : RX) : Prop := 1 ≤ e.f1 ∧ 0 ≤ e.f0 ∧ e.f1 ≤ 2048 ∧ e.f0 ≤ 2048 - e.f1
theorem sectors_ev (v : Int) (ys : List RX) (hl : ys.length ≤ 36) (hg : ∀ e ∈ ys, goodR e) : Ev (fun k => posthorseref08_Sectors.f k v ys) (secsR ys) := by
  unfold posthorseref08_Sectors.f
  have lp : ∀ (d i : Nat) (S : List Int), i + d = ys.length → S.length ≤ 2048 * i → Ev (fun k => posthorseref08_Sectors.l0 k S (i : Int) v ys) (S ++ secsR (ys.drop i)) := by
    intro d
    induction d with
    | zero =>
      intro i S hi hs
      rw [List.drop_eq_nil_of_le (by omega)]
      refine Ev.from 1 fun k => ?_
      rw [posthorseref08_Sectors.l0, if_neg (by omega)]; simp [secsR]
    | succ d ih =>
      intro i S hi hs
      have hil : i < ys.length := by omega
      obtain ⟨g1, g2, g3, g4⟩ := hg ys[i] (List.getElem_mem hil)
      have inner : ∀ (d2 j : Nat), j + d2 = (ys[i]).f1.toNat → Ev (fun k => posthorseref08_Sectors.l1 k (S ++ (List.range j).map fun (q : Nat) => (ys[i]).f0 + (q : Int)) (i : Int) (j : Int) v ys) (S ++ secsR (ys.drop i)) := by
        intro d2
        induction d2 with
        | zero =>
          intro j hj
          have h := ih (i + 1) (S ++ runX (ys[i]).f0 (ys[i]).f1) (by omega) (by rw [List.length_append, runX_len]; omega)
          rw [List.append_assoc] at h
          have e : secsR (ys.drop i) = runX (ys[i]).f0 (ys[i]).f1 ++ secsR (ys.drop (i + 1)) := by rw [List.drop_eq_getElem_cons hil]; rfl
          rw [e]
          refine Ev.step (fun k => ?_) h
          rw [posthorseref08_Sectors.l1, if_pos (by omega), if_pos (by omega), rdR ys i hil, if_neg (by omega), w64 (by omega) (by omega)]
          unfold runX
          rw [show j = (ys[i]).f1.toNat by omega]; rfl
        | succ d2 ih2 =>
          intro j hj
          have h := ih2 (j + 1) (by omega)
          refine Ev.step (fun k => ?_) h
          rw [posthorseref08_Sectors.l1, if_pos (by omega), if_pos (by omega), rdR ys i hil, if_pos (by omega), if_pos (by omega), if_pos (by rw [List.length_append, List.length_map, List.length_range]; omega), w64 (by omega) (by omega), w64 (by omega) (by omega), List.append_assoc]
          have e : ((List.range j).map fun (q : Nat) => (ys[i]).f0 + (q : Int)) ++ [(ys[i]).f0 + (j : Int)] = (List.range (j + 1)).map fun (q : Nat) => (ys[i]).f0 + (q : Int) := by rw [List.range_succ, List.map_append]; rfl
          rw [e]; rfl
      have h := inner (ys[i]).f1.toNat 0 (by omega)
      refine Ev.step (fun k => ?_) h
      rw [posthorseref08_Sectors.l0, if_pos (by omega)]; simp
  have := lp ys.length 0 [] (by omega) (by simp)
  rw [List.drop_zero, List.nil_append] at this
  exact this
/-! ### grow08 -/
theorem runX_add (a m n : Int) (hm : 0 ≤ m) (hn : 0 ≤ n) : runX a (m + n) = runX a m ++ runX (a + m) n := by
  unfold runX
  rw [show (m + n).toNat = m.toNat + n.toNat by omega, List.range_add, List.map_append, List.map_map]
  congr 1
  apply List.map_congr_left
  intro k _
  show a + ((m.toNat + k : Nat) : Int) = a + m + (k : Int)
  omega
/-- An extent within smaller bounds. -/
def okB (B : Int) (e : EX) : Prop := 0 ≤ e.f0 ∧ e.f0 ≤ 1023 ∧ 1 ≤ e.f1 ∧ e.f1 ≤ B
theorem okB_X {B : Int} {e : EX} (h : okB B e) (hB : B ≤ 100000) : okX e := ⟨h.1, by have := h.2.1; omega, h.2.2.1, by have := h.2.2.2; omega⟩
theorem any_some (a b : Int) : ∀ xs : List EX, ∃ m, anyMeets a b xs = some m
  | [] => ⟨false, rfl⟩
  | o :: xs => by
    have : ∃ t, inode_Extent_meets.f a b o.f0 o.f1 = some t := by
      unfold inode_Extent_meets.f
      split
      · exact ⟨_, rfl⟩
      · exact ⟨_, rfl⟩
    obtain ⟨t, ht⟩ := this
    obtain ⟨m, hm⟩ := any_some a b xs
    cases t with
    | true => exact ⟨true, by rw [anyMeets, ht]; rfl⟩
    | false => exact ⟨m, by rw [anyMeets, ht]; exact hm⟩
/-- Grow, at an extent that may be there: an error, or that behind. -/
theorem grow_ev (v : Int) (xs : List EX) (a b B : Int) (hB0 : 0 ≤ B) (hB : B ≤ 10000) (hl : xs.length ≤ 36) (hx : ∀ e ∈ xs, okB B e) (ha : 0 ≤ a ∧ a ≤ 1023) (hb : 1 ≤ b ∧ b ≤ 16) :
    ∃ g : Int × List EX × Option Int, Ev (fun k => inode_Grow.f k v xs a b) g ∧ (g.2.2 = none → secs g.2.1 = secs xs ++ runX a b ∧ g.2.1.length ≤ 36 ∧ ∀ e ∈ g.2.1, okB (B + 16) e) := by
  have hth : inode_Extent_there.f a b 2048 = some true := by
    unfold inode_Extent_there.f
    rw [if_pos (by omega), if_pos (by omega), if_pos (by omega), w64 (by omega) (by omega), decide_eq_true (by omega)]
  obtain ⟨m, hm⟩ := any_some a b xs
  have hme : inode_Inode_meets.f v xs a b = some m := by unfold inode_Inode_meets.f; rw [if_pos (by omega)]; exact hm
  have start : ∀ g, Ev (fun k => inode_Grow.j0 k m v xs a b) g → Ev (fun k => inode_Grow.f k v xs a b) g := fun g h => by
    unfold inode_Grow.f
    rw [hth]
    simp only [Option.bind_some, if_true]
    rw [hme]
    exact h
  cases m with
  | true => exact ⟨(0, [], some 1), start _ (Ev.from 1 fun k => by rw [inode_Grow.j0, if_pos rfl]), fun h => by cases h⟩
  | false =>
    have hcl : inode_Extent.f xs = some xs := by unfold inode_Extent.f; rw [if_pos (by omega)]
    have app : ∀ q, q = false → ∃ g : Int × List EX × Option Int, Ev (fun k => inode_Grow.j1 k xs (xs.length : Int) q v xs a b) g ∧ (g.2.2 = none → secs g.2.1 = secs xs ++ runX a b ∧ g.2.1.length ≤ 36 ∧ ∀ e ∈ g.2.1, okB (B + 16) e) := fun q hq => by
      subst hq
      by_cases c : (xs.length : Int) ≥ 36
      · exact ⟨(0, [], some 19), Ev.from 1 fun k => by rw [inode_Grow.j1, if_neg (by decide), if_pos c], fun h => by cases h⟩
      · refine ⟨(wrap64 (v + 1), xs ++ [⟨a, b⟩], none), Ev.from 1 fun k => ?_, fun _ => ⟨?_, by rw [List.length_append]; simp; omega, fun e he => ?_⟩⟩
        · rw [inode_Grow.j1, if_neg (by decide), if_neg c, if_pos (by omega)]; rfl
        · rw [secs_app]
          congr 1
          show runX a b ++ [] = _
          rw [List.append_nil]
        · rcases List.mem_append.1 he with h | h
          · obtain ⟨h1, h2, h3, h4⟩ := hx e h
            exact ⟨h1, h2, h3, by omega⟩
          · rw [List.mem_singleton] at h
            subst h
            exact ⟨ha.1, ha.2, hb.1, by show b ≤ B + 16; omega⟩
    have fin : ∀ q, (q = false → ∃ g : Int × List EX × Option Int, Ev (fun k => inode_Grow.j1 k xs (xs.length : Int) q v xs a b) g ∧ (g.2.2 = none → secs g.2.1 = secs xs ++ runX a b ∧ g.2.1.length ≤ 36 ∧ ∀ e ∈ g.2.1, okB (B + 16) e)) := app
    rcases List.eq_nil_or_concat xs with rfl | ⟨init, last, rfl⟩
    · obtain ⟨g, hg, hp⟩ := app false rfl
      refine ⟨g, start _ (Ev.step (fun k => ?_) hg), hp⟩
      rw [inode_Grow.j0, if_neg (by decide), hcl]
      simp only [Option.bind_some]
      rw [if_neg (by decide)]
    · rw [List.concat_eq_append] at *
      have hlen : (init ++ [last]).length = init.length + 1 := by simp
      obtain ⟨o1, o2, o3, o4⟩ := hx last (by simp)
      have hrd : rd_T40 (init ++ [last]) (init.length : Int) = last := by
        rw [rdX _ _ (by rw [hlen]; omega)]; simp
      have hq : ∀ g, Ev (fun k => inode_Grow.j1 k (init ++ [last]) ((init ++ [last]).length : Int) ((last.f0 + last.f1) == a) v (init ++ [last]) a b) g → Ev (fun k => inode_Grow.f k v (init ++ [last]) a b) g := fun g h => by
        refine start g (Ev.step (fun k => ?_) h)
        rw [inode_Grow.j0, if_neg (by decide), hcl]
        simp only [Option.bind_some]
        rw [if_pos (by rw [hlen]; omega), show wrap64 (((init ++ [last]).length : Int) - 1) = (init.length : Int) by rw [hlen]; rw [w64 (by omega) (by omega)]; omega, if_pos (by omega), if_pos (by rw [hlen]; omega), hrd, w64 (by omega) (by omega)]
      by_cases c : last.f0 + last.f1 = a
      · refine ⟨(wrap64 (v + 1), init ++ [⟨last.f0, last.f1 + b⟩], none), hq _ (Ev.from 1 fun k => ?_), fun _ => ⟨?_, ?_, fun e he => ?_⟩⟩
        · rw [beq_iff_eq.2 c, inode_Grow.j1, if_pos rfl, show wrap64 (((init ++ [last]).length : Int) - 1) = (init.length : Int) by rw [hlen]; rw [w64 (by omega) (by omega)]; omega, if_pos (by omega), if_pos (by rw [hlen]; omega), hrd, Int.toNat_natCast, w64 (n := last.f1 + b) (by omega) (by omega)]
          have : (init ++ [last]).set init.length (⟨last.f0, last.f1 + b⟩ : EX) = init ++ [⟨last.f0, last.f1 + b⟩] := by simp
          rw [this]; rfl
        · rw [secs_app, secs_app, List.append_assoc]
          congr 1
          show runX last.f0 (last.f1 + b) ++ [] = (runX last.f0 last.f1 ++ []) ++ runX a b
          rw [List.append_nil, List.append_nil, runX_add _ _ _ (by omega) (by omega), c]
        · simp at hl ⊢; omega
        · rcases List.mem_append.1 he with h | h
          · obtain ⟨h1, h2, h3, h4⟩ := hx e (by simp [h])
            exact ⟨h1, h2, h3, by omega⟩
          · rw [List.mem_singleton] at h
            subst h
            exact ⟨o1, o2, by show 1 ≤ last.f1 + b; omega, by show last.f1 + b ≤ B + 16; omega⟩
      · obtain ⟨g, hg, hp⟩ := app _ (beq_eq_false_iff_ne.2 c)
        exact ⟨g, hq g hg, hp⟩
theorem take_run (a m : Int) (r : Nat) (hm : 0 ≤ m) (hr : (r : Int) ≤ m) : (runX a m).take r = runX a (r : Int) := by
  unfold runX
  rw [← List.map_take, List.take_range, Int.toNat_natCast, Nat.min_eq_left (by omega)]
/-- What Cut leaves, and what it frees. -/
def cutL : List EX → Int → List EX
  | [], _ => []
  | e :: xs, r => (if mn e.f1 r > 0 then [⟨e.f0, mn e.f1 r⟩] else []) ++ cutL xs (wrap64 (r - mn e.f1 r))
def cutF : List EX → Int → List EX
  | [], _ => []
  | e :: xs, r => (if mn e.f1 r < e.f1 then [⟨wrap64 (e.f0 + mn e.f1 r), wrap64 (e.f1 - mn e.f1 r)⟩] else []) ++ cutF xs (wrap64 (r - mn e.f1 r))
theorem cutL_len : ∀ (xs : List EX) (r : Int), (cutL xs r).length ≤ xs.length
  | [], _ => by rw [cutL]; exact Nat.le_refl _
  | e :: xs, r => by
    have ih := cutL_len xs (wrap64 (r - mn e.f1 r))
    rw [cutL, List.length_append, List.length_cons]
    split
    · rw [List.length_singleton]; omega
    · rw [List.length_nil]; omega
theorem cutF_len : ∀ (xs : List EX) (r : Int), (cutF xs r).length ≤ xs.length
  | [], _ => by rw [cutF]; exact Nat.le_refl _
  | e :: xs, r => by
    have ih := cutF_len xs (wrap64 (r - mn e.f1 r))
    rw [cutF, List.length_append, List.length_cons]
    split
    · rw [List.length_singleton]; omega
    · rw [List.length_nil]; omega
/-- The walk of Cut. -/
theorem cut_walk (v : Int) (ys : List EX) (hl : ys.length ≤ 1000000) : ∀ (d i : Nat) (r : Int) (Z F : List EX), i + d = ys.length → Z.length ≤ i → F.length ≤ i → Ev (fun k => inode_Cut.l0 k r Z F ys (ys.length : Int) (i : Int) v ys) (if ((F ++ cutF (ys.drop i) r).length : Int) = 0 then (v, Z ++ cutL (ys.drop i) r, [], none) else (wrap64 (v + 1), Z ++ cutL (ys.drop i) r, F ++ cutF (ys.drop i) r, none)) := by
  intro d
  induction d with
  | zero =>
    intro i r Z F hi hZ hF
    rw [List.drop_eq_nil_of_le (by omega), cutL, cutF, List.append_nil, List.append_nil]
    refine Ev.from 1 fun k => ?_
    rw [inode_Cut.l0, if_neg (by omega)]
    by_cases c : (F.length : Int) = 0
    · rw [if_pos c, if_pos c]
    · rw [if_neg c, if_neg c]; rfl
  | succ d ih =>
    intro i r Z F hi hZ hF
    have hil : i < ys.length := by omega
    have hX0 := rdX ys i hil
    have c0 : (i : Int) < (ys.length : Int) := by omega
    have c00 : (0 : Int) ≤ (i : Int) := by omega
    have cZ : Z.length < 8796093022208 := by omega
    have cF : F.length < 8796093022208 := by omega
    have wi_ : wrap64 ((i : Int) + 1) = ((i + 1 : Nat) : Int) := by rw [w64 (by omega) (by omega)]; rfl
    rw [List.drop_eq_getElem_cons hil, cutL, cutF]
    generalize ys[i]'hil = q at hX0 ⊢
    have next : ∀ (Z' F' : List EX), Z'.length ≤ i + 1 → F'.length ≤ i + 1 → Ev (fun k => inode_Cut.l0 k (wrap64 (r - mn q.f1 r)) Z' F' ys (ys.length : Int) ((i + 1 : Nat) : Int) v ys) (if ((F' ++ cutF (ys.drop (i + 1)) (wrap64 (r - mn q.f1 r))).length : Int) = 0 then (v, Z' ++ cutL (ys.drop (i + 1)) (wrap64 (r - mn q.f1 r)), [], none) else (wrap64 (v + 1), Z' ++ cutL (ys.drop (i + 1)) (wrap64 (r - mn q.f1 r)), F' ++ cutF (ys.drop (i + 1)) (wrap64 (r - mn q.f1 r)), none)) := fun Z' F' hZ' hF' => ih (i + 1) _ Z' F' (by omega) hZ' hF'
    clear ih
    generalize hm : mn q.f1 r = m at next ⊢
    by_cases c1 : m > 0
    · by_cases c2 : m < q.f1
      · simp only [if_pos c1, if_pos c2, ← List.append_assoc, List.append_nil]
        refine Ev.step (fun k => ?_) (next (Z ++ [⟨q.f0, m⟩]) (F ++ [⟨wrap64 (q.f0 + m), wrap64 (q.f1 - m)⟩]) (by rw [List.length_append, List.length_singleton]; omega) (by rw [List.length_append, List.length_singleton]; omega))
        rw [inode_Cut.l0, if_pos c0, if_pos c00, if_pos c0, hX0, hm, if_pos c1, if_pos cZ, Option.bind_some, if_pos c2, if_pos cF, wi_]
      · simp only [if_pos c1, if_neg c2, ← List.append_assoc, List.append_nil]
        refine Ev.step (fun k => ?_) (next (Z ++ [⟨q.f0, m⟩]) F (by rw [List.length_append, List.length_singleton]; omega) (by omega))
        rw [inode_Cut.l0, if_pos c0, if_pos c00, if_pos c0, hX0, hm, if_pos c1, if_pos cZ, Option.bind_some, if_neg c2, wi_]
    · by_cases c2 : m < q.f1
      · simp only [if_neg c1, if_pos c2, ← List.append_assoc, List.append_nil]
        refine Ev.step (fun k => ?_) (next Z (F ++ [⟨wrap64 (q.f0 + m), wrap64 (q.f1 - m)⟩]) (by omega) (by rw [List.length_append, List.length_singleton]; omega))
        rw [inode_Cut.l0, if_pos c0, if_pos c00, if_pos c0, hX0, hm, if_neg c1, if_pos c2, if_pos cF, wi_]
      · simp only [if_neg c1, if_neg c2, ← List.append_assoc, List.append_nil]
        refine Ev.step (fun k => ?_) (next Z F (by omega) (by omega))
        rw [inode_Cut.l0, if_pos c0, if_pos c00, if_pos c0, hX0, hm, if_neg c1, if_neg c2, wi_]
theorem mn_eq (a b : Int) : mn a b = if b < a then b else a := rfl
/-- The sectors that are left: the first ones. -/
theorem secs_cutL (B : Int) : ∀ (xs : List EX) (r : Int), (∀ e ∈ xs, okB B e) → B ≤ 100000 → 0 ≤ r → r ≤ 1000000000 → secs (cutL xs r) = (secs xs).take r.toNat ∧ ∀ e ∈ cutL xs r, okB B e
  | [], r, _, _, _, _ => by
    rw [cutL]
    exact ⟨by show [] = List.take _ []; rw [List.take_nil], fun e he => by cases he⟩
  | q :: xs, r, hx, hB, h0, h1 => by
    obtain ⟨o1, o2, o3, o4⟩ := hx q (by simp)
    have hx' : ∀ e ∈ xs, okB B e := fun e he => hx e (by simp [he])
    rw [cutL, secs_app, secs_cons, List.take_append, runX_len, mn_eq]
    by_cases c : r < q.f1
    · rw [if_pos c, w64 (by omega) (by omega), show r - r = 0 by omega]
      obtain ⟨p1, p2⟩ := secs_cutL B xs 0 hx' hB (by omega) (by omega)
      rw [p1, show r.toNat - q.f1.toNat = (0 : Int).toNat by omega]
      have tr := take_run q.f0 q.f1 r.toNat (by omega) (by omega)
      rw [tr]
      by_cases cz : r > 0
      · rw [if_pos cz]
        refine ⟨?_, fun e he => ?_⟩
        · congr 1
          show runX q.f0 r ++ [] = runX q.f0 ((r.toNat : Nat) : Int)
          rw [List.append_nil, show ((r.toNat : Nat) : Int) = r by omega]
        · rcases List.mem_append.1 he with h | h
          · rw [List.mem_singleton] at h; subst h
            exact ⟨o1, o2, by show 1 ≤ r; omega, by show r ≤ B; omega⟩
          · exact p2 e h
      · rw [if_neg cz]
        refine ⟨?_, fun e he => ?_⟩
        · congr 1
          rw [show ((r.toNat : Nat) : Int) = 0 by omega]; rfl
        · exact p2 e (by simpa using he)
    · rw [if_neg c, w64 (by omega) (by omega)]
      obtain ⟨p1, p2⟩ := secs_cutL B xs (r - q.f1) hx' hB (by omega) (by omega)
      rw [p1, if_pos (by omega), List.take_of_length_le (l := runX q.f0 q.f1) (by rw [runX_len]; omega), show r.toNat - q.f1.toNat = (r - q.f1).toNat by omega]
      refine ⟨?_, fun e he => ?_⟩
      · congr 1
        show runX q.f0 q.f1 ++ [] = _
        rw [List.append_nil]
      · rcases List.mem_append.1 he with h | h
        · rw [List.mem_singleton] at h; subst h
          exact ⟨o1, o2, o3, o4⟩
        · exact p2 e h
/-- Cut to so many blocks that there are: the first ones. -/
theorem cut_ev (v : Int) (ys : List EX) (B left : Int) (hB : B ≤ 100000) (hl : ys.length ≤ 36) (hx : ∀ e ∈ ys, okB B e) (h0 : 0 ≤ left) (h1 : left ≤ ((secs ys).length : Int)) (h2 : (secs ys).length ≤ 100000000) :
    ∃ g : Int × List EX × List EX × Option Int, Ev (fun k => inode_Cut.f k v ys left) g ∧ g.2.2.2 = none ∧ secs g.2.1 = (secs ys).take left.toNat ∧ g.2.1.length ≤ 36 ∧ ∀ e ∈ g.2.1, okB B e := by
  have hX : ∀ e ∈ ys, okX e := fun e he => okB_X (hx e he) hB
  have hsz := size_ev v ys (by omega) hX
  have hw := cut_walk v ys (by omega) ys.length 0 left [] [] (by omega) (by simp) (by simp)
  rw [List.drop_zero, List.nil_append, List.nil_append] at hw
  obtain ⟨p2, p4⟩ := secs_cutL B ys left hx hB h0 (by omega)
  have p3 := cutL_len ys left
  refine ⟨if ((cutF ys left).length : Int) = 0 then (v, cutL ys left, [], none) else (wrap64 (v + 1), cutL ys left, cutF ys left, none), ?_, ?_⟩
  · unfold inode_Cut.f
    simp only [if_neg (show ¬ left < 0 by omega)]
    refine Ev.bind hsz ?_
    rw [decide_eq_false (by omega)]
    exact Ev.step (fun k => by rw [inode_Cut.j0, if_neg (by decide)]; rfl) hw
  · split
    · exact ⟨rfl, p2, by show (cutL ys left).length ≤ 36; omega, p4⟩
    · exact ⟨rfl, p2, by show (cutL ys left).length ≤ 36; omega, p4⟩

/-! ### plays08 -/
theorem Ev.suc {α : Type} {g : Nat → Option α} {r : α} (h : Ev (fun k => g (k + 1)) r) : Ev g r := Ev.step (fun _ => rfl) h
def xr (e : EX) : RX := ⟨e.f0, e.f1⟩
theorem secs_conv (xs : List EX) : secsR (xs.map xr) = secs xs := by
  unfold secs secsR
  rw [List.flatMap_map]; rfl
def thX (e : EX) : Prop := 0 ≤ e.f0 ∧ 1 ≤ e.f1 ∧ e.f1 ≤ 2048 ∧ e.f0 ≤ 2048 - e.f1
instance (e : EX) : Decidable (thX e) := by unfold thX; exact inferInstance
def djX (a b : EX) : Prop := a.f0 + a.f1 ≤ b.f0 ∨ b.f0 + b.f1 ≤ a.f0
/-- A list that may be: short enough, each is there, no two meet. -/
def InvX (xs : List EX) : Prop := xs.length ≤ 36 ∧ (∀ e ∈ xs, thX e) ∧ xs.Pairwise djX
def mtB (a b : Int) (o : EX) : Bool := decide (a < o.f0 + o.f1) && decide (o.f0 < a + b)
theorem thX_ok {e : EX} (h : thX e) : okX e := ⟨h.1, by have := h.2; omega, h.2.1, by have := h.2; omega⟩
theorem there_f (a b : Int) : inode_Extent_there.f a b 2048 = some (decide (thX ⟨a, b⟩)) := by
  unfold inode_Extent_there.f
  by_cases h1 : a ≥ 0
  · rw [if_pos h1]
    by_cases h2 : b ≥ 1
    · rw [if_pos h2]
      by_cases h3 : b ≤ 2048
      · rw [if_pos h3, w64 (by omega) (by omega)]
        congr 1
        rw [decide_eq_decide]
        exact ⟨fun h => ⟨h1, h2, h3, h⟩, fun h => h.2.2.2⟩
      · rw [if_neg h3, decide_eq_false (fun h => h3 h.2.2.1)]
    · rw [if_neg h2, decide_eq_false (fun h => h2 h.2.1)]
  · rw [if_neg h1, decide_eq_false (fun h => h1 h.1)]
theorem meets_f (a b : Int) (o : EX) (h : thX ⟨a, b⟩) (ho : thX o) : inode_Extent_meets.f a b o.f0 o.f1 = some (mtB a b o) := by
  obtain ⟨a1, a2, a3, a4⟩ := h
  obtain ⟨o1, o2, o3, o4⟩ := ho
  dsimp only at a1 a2 a3 a4
  unfold inode_Extent_meets.f mtB
  rw [w64 (n := o.f0 + o.f1) (by omega) (by omega), w64 (n := a + b) (by omega) (by omega)]
  by_cases c : a < o.f0 + o.f1
  · rw [if_pos c, decide_eq_true c, Bool.true_and]
  · rw [if_neg c, decide_eq_false c, Bool.false_and]
theorem any_f (a b : Int) (h : thX ⟨a, b⟩) : ∀ xs : List EX, (∀ e ∈ xs, thX e) → anyMeets a b xs = some (xs.any (mtB a b))
  | [], _ => rfl
  | o :: xs, hx => by
    rw [anyMeets, meets_f a b o h (hx o (by simp)), Option.bind_some, any_f a b h xs (fun e he => hx e (by simp [he])), List.any_cons]
    cases mtB a b o <;> rfl
theorem mt_dj {a b : Int} {o : EX} (h : mtB a b o = false) : djX o ⟨a, b⟩ := by
  unfold mtB at h
  unfold djX
  by_cases c : a < o.f0 + o.f1
  · rw [decide_eq_true c, Bool.true_and] at h
    have := of_decide_eq_false h
    right; show a + b ≤ o.f0; omega
  · left; show o.f0 + o.f1 ≤ a; omega
theorem dj_mt {o x : EX} (h : djX o x) : mtB x.f0 x.f1 o = false := by
  unfold mtB
  rcases h with h | h
  · rw [decide_eq_false (by omega), Bool.false_and]
  · rw [decide_eq_false (p := o.f0 < x.f0 + x.f1) (by omega), Bool.and_false]
theorem dj_symm {a b : EX} (h : djX a b) : djX b a := h.symm
theorem right_from : ∀ (xs pre : List EX), (∀ e ∈ xs, thX e) → (∀ e ∈ pre, thX e) → xs.Pairwise djX → (∀ p ∈ pre, ∀ x ∈ xs, djX p x) → rightFrom 2048 pre xs = some true
  | [], _, _, _, _, _ => rfl
  | x :: xs, pre, h1, h2, h3, h4 => by
    have hx : thX x := h1 x (by simp)
    have hp := List.pairwise_cons.1 h3
    rw [rightFrom, there_f, decide_eq_true hx, Option.bind_some, if_pos rfl, any_f _ _ hx pre h2, Option.bind_some]
    have : pre.any (mtB x.f0 x.f1) = false := by
      rw [List.any_eq_false]
      intro o ho
      rw [dj_mt (h4 o ho x (by simp))]; decide
    rw [this, if_neg (by decide)]
    refine right_from xs (pre ++ [x]) (fun e he => h1 e (by simp [he])) (fun e he => ?_) hp.2 (fun p hpm y hy => ?_)
    · rcases List.mem_append.1 he with h | h
      · exact h2 e h
      · rw [List.mem_singleton] at h; subst h; exact hx
    · rcases List.mem_append.1 hpm with h | h
      · exact h4 p h y (by simp [hy])
      · rw [List.mem_singleton] at h; subst h; exact hp.1 y hy
theorem right_f (v : Int) (xs : List EX) (h0 : 0 ≤ v) (h1 : v ≤ 100) (h : InvX xs) : inode_Right.f v xs 2048 = some true := by
  unfold inode_Right.f
  have := h.1
  rw [if_neg (by omega)]
  exact right_from xs [] h.2.1 (fun e he => by cases he) h.2.2 (fun p hp => by cases hp)
theorem run_any (a n f m : Int) (hn : 1 ≤ n) (hm : 1 ≤ m) : (runX f m).any (fun s => decide (a ≤ s) && decide (s < a + n)) = (decide (a < f + m) && decide (f < a + n)) := by
  rw [Bool.eq_iff_iff, List.any_eq_true]
  constructor
  · rintro ⟨s, hs, h⟩
    unfold runX at hs
    obtain ⟨k, hk, rfl⟩ := List.mem_map.1 hs
    rw [List.mem_range] at hk
    simp only [Bool.and_eq_true, decide_eq_true_eq] at h ⊢
    omega
  · intro h
    simp only [Bool.and_eq_true, decide_eq_true_eq] at h
    have mem : ∀ k : Nat, (k : Int) < m → f + (k : Int) ∈ runX f m := fun k hk => by
      unfold runX
      exact List.mem_map.2 ⟨k, List.mem_range.2 (by omega), rfl⟩
    by_cases c : a ≤ f
    · refine ⟨f + ((0 : Nat) : Int), mem 0 (by omega), ?_⟩
      simp only [Bool.and_eq_true, decide_eq_true_eq]; omega
    · refine ⟨f + (((a - f).toNat : Nat) : Int), mem _ (by omega), ?_⟩
      simp only [Bool.and_eq_true, decide_eq_true_eq]; omega
theorem secs_any (a n : Int) (hn : 1 ≤ n) : ∀ xs : List EX, (∀ e ∈ xs, thX e) → (secs xs).any (fun s => decide (a ≤ s) && decide (s < a + n)) = xs.any (mtB a n)
  | [], _ => rfl
  | o :: xs, h => by
    rw [secs_cons, List.any_append, List.any_cons, secs_any a n hn xs (fun e he => h e (by simp [he])), run_any a n o.f0 o.f1 hn (h o (by simp)).2.1]
    rfl
theorem secs_len : ∀ xs : List EX, (∀ e ∈ xs, thX e) → (secs xs).length ≤ 2048 * xs.length
  | [], _ => by simp [secs]
  | o :: xs, h => by
    have ih := secs_len xs (fun e he => h e (by simp [he]))
    have := (h o (by simp)).2
    rw [secs_cons, List.length_append, runX_len, List.length_cons]; omega
theorem good_conv {xs : List EX} (h : ∀ e ∈ xs, thX e) : ∀ e ∈ xs.map xr, goodR e := by
  intro e he
  obtain ⟨x, hx, rfl⟩ := List.mem_map.1 he
  obtain ⟨h1, h2, h3, h4⟩ := h x hx
  exact ⟨h2, h1, h3, h4⟩
theorem secs_ev (v : Int) (xs : List EX) (h : InvX xs) : Ev (fun k => posthorseref08_Sectors.f k v (xs.map xr)) (secs xs) := by
  have := sectors_ev v (xs.map xr) (by rw [List.length_map]; exact h.1) (good_conv h.2.1)
  rwa [secs_conv] at this
theorem rdI (S : List Int) (i : Nat) (h : i < S.length) : rd S (i : Int) = S[i] := by
  show S.getD (i : Int).toNat 0 = _
  rw [Int.toNat_natCast, List.getD_eq_getElem?_getD, List.getElem?_eq_getElem h]; rfl
theorem free_ev (v : Int) (xs : List EX) (h : InvX xs) (a n : Int) : Ev (fun k => posthorseref08_free.f k v (xs.map xr) a n) (decide (thX ⟨a, n⟩) && !(xs.any (mtB a n))) := by
  have bad : Ev (fun k => posthorseref08_free.j0 k a n true v (xs.map xr)) false := Ev.from 1 fun k => by rw [posthorseref08_free.j0, if_pos rfl]
  unfold posthorseref08_free.f
  by_cases h1 : n < 1
  · simp only [if_pos h1]
    rw [decide_eq_false (fun h => by have := h.2.1; dsimp only at this; omega)]; exact bad
  by_cases h2 : a < 0
  · simp only [if_neg h1, if_pos h2]
    rw [decide_eq_false (fun h => by have := h.1; dsimp only at this; omega)]; exact bad
  by_cases h3 : n > 2048
  · simp only [if_neg h1, if_neg h2, if_pos h3]
    rw [decide_eq_false (fun h => by have := h.2.2.1; dsimp only at this; omega)]; exact bad
  simp only [if_neg h1, if_neg h2, if_neg h3]
  rw [w64 (by omega) (by omega)]
  by_cases h4 : a > 2048 - n
  · rw [decide_eq_true h4, decide_eq_false (p := thX _) (fun h => by have := h.2.2.2; dsimp only at this; omega)]; exact bad
  rw [decide_eq_false h4, decide_eq_true (p := thX ⟨a, n⟩) ⟨by show 0 ≤ a; omega, by show 1 ≤ n; omega, by show n ≤ 2048; omega, by show a ≤ 2048 - n; omega⟩, Bool.true_and, ← secs_any a n (by omega) xs h.2.1]
  have hl := secs_len xs h.2.1
  have h36 := h.1
  refine Ev.step (f := fun k => (posthorseref08_Sectors.f k v (xs.map xr)).bind fun t => posthorseref08_free.l0 k a n t 0) (fun k => by rw [posthorseref08_free.j0, if_neg (by decide)]) ?_
  refine Ev.bind (secs_ev v xs h) ?_
  generalize secs xs = S at *
  have lp : ∀ (d i : Nat), i + d = S.length → Ev (fun k => posthorseref08_free.l0 k a n S (i : Int)) (!((S.drop i).any (fun s => decide (a ≤ s) && decide (s < a + n)))) := by
    intro d
    induction d with
    | zero =>
      intro i hi
      rw [List.drop_eq_nil_of_le (by omega)]
      exact Ev.from 1 fun k => by rw [posthorseref08_free.l0, if_neg (by omega)]; rfl
    | succ d ih =>
      intro i hi
      have hil : i < S.length := by omega
      have hr := rdI S i hil
      have next := ih (i + 1) (by omega)
      rw [List.drop_eq_getElem_cons hil, List.any_cons]
      generalize S[i] = s at *
      have st : ∀ q, (decide (a ≤ s) && decide (s < a + n)) = false → Ev (fun k => posthorseref08_free.l0 k a n S ((i + 1 : Nat) : Int)) q → Ev (fun k => posthorseref08_free.l0 k a n S (i : Int)) q := fun q hq hv => by
        refine Ev.step (fun k => ?_) hv
        rw [posthorseref08_free.l0, if_pos (by omega), if_pos (by omega), hr, w64 (n := a + n) (by omega) (by omega), w64 (n := (i : Int) + 1) (by omega) (by omega)]
        by_cases c : s ≥ a
        · rw [decide_eq_true c, Bool.true_and] at hq
          rw [if_pos c, if_neg (of_decide_eq_false hq)]; rfl
        · rw [if_neg c]; rfl
      cases hb : (decide (a ≤ s) && decide (s < a + n)) with
      | false => rw [Bool.false_or]; exact st _ hb next
      | true =>
        rw [Bool.true_or]
        simp only [Bool.and_eq_true, decide_eq_true_eq] at hb
        exact Ev.from 1 fun k => by rw [posthorseref08_free.l0, if_pos (by omega), if_pos (by omega), hr, w64 (n := a + n) (by omega) (by omega), if_pos (by omega), if_pos (by omega)]; rfl
  have := lp S.length 0 (by omega)
  rw [List.drop_zero] at this
  exact this
/-- What both answer alike. -/
def Both (v : Int) (g : Int × List EX) (ge : Option Int) (r : Int × List RX) (re : Int) : Prop := r.1 = g.1 ∧ r.2 = g.2.map xr ∧ ge.getD 0 = re ∧ g.2.length ≤ 36 ∧ (re = 0 → InvX g.2 ∧ v ≤ g.1 ∧ g.1 ≤ v + 1)
theorem both_err (v c : Int) (hc : c ≠ 0) : Both v (0, []) (some c) (0, []) c := ⟨rfl, rfl, rfl, by simp, fun h => absurd h hc⟩
theorem grow_all (v : Int) (xs : List EX) (a b : Int) (hv : 0 ≤ v) (hv1 : v ≤ 100) (h : InvX xs) :
    ∃ (g : Int × List EX × Option Int) (r : Int × List RX × Int), Ev (fun k => inode_Grow.f k v xs a b) g ∧ Ev (fun k => posthorseref08_Grow.f k v (xs.map xr) a b) r ∧ Both v (g.1, g.2.1) g.2.2 (r.1, r.2.1) r.2.2 := by
  obtain ⟨h36, hth, hpw⟩ := h
  have hfree := free_ev v xs ⟨h36, hth, hpw⟩ a b
  by_cases ht : thX ⟨a, b⟩
  case neg =>
    rw [decide_eq_false ht, Bool.false_and] at hfree
    refine ⟨(0, [], some 1), (0, [], 1), ?_, ?_, both_err v 1 (by decide)⟩
    · unfold inode_Grow.f
      rw [there_f, decide_eq_false ht]
      simp only [Option.bind_some, Bool.false_eq_true, if_false]
      exact Ev.from 1 fun k => by rw [inode_Grow.j0, if_pos rfl]
    · unfold posthorseref08_Grow.f
      refine Ev.bind hfree ?_
      simp only [Bool.false_eq_true, if_false]
      exact Ev.now _
  rw [decide_eq_true ht, Bool.true_and] at hfree
  have hme : inode_Inode_meets.f v xs a b = some (xs.any (mtB a b)) := by unfold inode_Inode_meets.f; rw [if_pos (by omega)]; exact any_f a b ht xs hth
  have start : ∀ g, Ev (fun k => inode_Grow.j0 k (xs.any (mtB a b)) v xs a b) g → Ev (fun k => inode_Grow.f k v xs a b) g := fun g h => by
    unfold inode_Grow.f
    rw [there_f, decide_eq_true ht]
    simp only [Option.bind_some, if_true]
    rw [hme]
    exact h
  cases hm : xs.any (mtB a b) with
  | true =>
    rw [hm] at hfree start
    refine ⟨(0, [], some 1), (0, [], 1), start _ (Ev.from 1 fun k => by rw [inode_Grow.j0, if_pos rfl]), ?_, both_err v 1 (by decide)⟩
    unfold posthorseref08_Grow.f
    refine Ev.bind hfree ?_
    simp only [Bool.not_true, Bool.false_eq_true, if_false]
    exact Ev.now _
  | false =>
    rw [hm] at hfree start
    have hdj : ∀ o ∈ xs, djX o ⟨a, b⟩ := fun o ho => mt_dj (by
      have := List.any_eq_false.1 hm o ho
      simpa using this)
    obtain ⟨t1, t2, t3, t4⟩ := ht
    dsimp only at t1 t2 t3 t4
    have hcl : inode_Extent.f xs = some xs := by unfold inode_Extent.f; rw [if_pos (by omega)]
    have hlm : (xs.map xr).length = xs.length := List.length_map _
    -- the reference's way to its last step
    have rstart : ∀ (q : Bool) (r), (0 < xs.length → q = (wrap64 ((rd_T39 (xs.map xr) ((xs.length : Int) - 1)).f0 + (rd_T39 (xs.map xr) ((xs.length : Int) - 1)).f1) == a)) → (xs.length = 0 → q = false) → Ev (fun k => posthorseref08_Grow.j0 k (xs.length : Int) q a b (wrap64 (v + 1)) (xs.map xr)) r → Ev (fun k => posthorseref08_Grow.f k v (xs.map xr) a b) r := fun q r hq hq0 hr => by
      unfold posthorseref08_Grow.f
      refine Ev.bind hfree ?_
      simp only [Bool.not_false, if_true, Option.bind_some, List.nil_append, List.length_nil, Nat.zero_add, hlm, if_pos (show xs.length < 8796093022208 by omega)]
      by_cases c : (xs.length : Int) > 0
      · simp only [if_pos c]
        rw [w64 (n := (xs.length : Int) - 1) (by omega) (by omega)]
        simp only [if_pos (show 0 ≤ (xs.length : Int) - 1 by omega), if_pos (show (xs.length : Int) - 1 < (xs.length : Int) by omega)]
        rw [← hq (by omega)]; exact hr
      · simp only [if_neg c]
        rw [hq0 (by omega)] at hr
        exact hr
    have pw_app : (xs ++ [(⟨a, b⟩ : EX)]).Pairwise djX := by
      rw [List.pairwise_append]
      refine ⟨hpw, by simp, fun o ho e he => ?_⟩
      rw [List.mem_singleton] at he; subst he; exact hdj o ho
    have app : ∃ (g : Int × List EX × Option Int) (r : Int × List RX × Int), Ev (fun k => inode_Grow.j1 k xs (xs.length : Int) false v xs a b) g ∧ Ev (fun k => posthorseref08_Grow.j0 k (xs.length : Int) false a b (wrap64 (v + 1)) (xs.map xr)) r ∧ Both v (g.1, g.2.1) g.2.2 (r.1, r.2.1) r.2.2 := by
      by_cases c : (xs.length : Int) ≥ 36
      · refine ⟨(0, [], some 19), (0, [], 19), Ev.from 1 fun k => by rw [inode_Grow.j1, if_neg (by decide), if_pos c], Ev.from 1 fun k => by rw [posthorseref08_Grow.j0, if_neg (by decide), if_pos (by omega)], both_err v 19 (by decide)⟩
      · refine ⟨(wrap64 (v + 1), xs ++ [⟨a, b⟩], none), (wrap64 (v + 1), xs.map xr ++ [⟨a, b⟩], 0), Ev.from 1 fun k => by rw [inode_Grow.j1, if_neg (by decide), if_neg c, if_pos (by omega)]; rfl, Ev.from 1 fun k => by rw [posthorseref08_Grow.j0, if_neg (by decide), if_neg (by omega), if_pos (by rw [hlm]; omega)], rfl, ?_, rfl, by show (xs ++ [_]).length ≤ 36; rw [List.length_append, List.length_singleton]; omega, fun _ => ⟨⟨?_, ?_, pw_app⟩, ?_, ?_⟩⟩
        · show xs.map xr ++ [_] = (xs ++ [_]).map xr
          rw [List.map_append]; rfl
        · rw [List.length_append, List.length_singleton]; omega
        · intro e he
          rcases List.mem_append.1 he with h | h
          · exact hth e h
          · rw [List.mem_singleton] at h; subst h; exact ⟨t1, t2, t3, t4⟩
        · show v ≤ wrap64 (v + 1); rw [w64 (by omega) (by omega)]; omega
        · show wrap64 (v + 1) ≤ v + 1; rw [w64 (by omega) (by omega)]; omega
    rcases List.eq_nil_or_concat xs with rfl | ⟨init, last, rfl⟩
    · obtain ⟨g, r, hg, hr, hb⟩ := app
      refine ⟨g, r, start _ (Ev.step (fun k => ?_) hg), rstart false _ (fun h => absurd h (by simp)) (fun _ => rfl) hr, hb⟩
      rw [inode_Grow.j0, if_neg (by decide), hcl]
      simp only [Option.bind_some]
      rw [if_neg (by decide)]
    · rw [List.concat_eq_append] at *
      have hlen : (init ++ [last]).length = init.length + 1 := by simp
      obtain ⟨o1, o2, o3, o4⟩ := hth last (by simp)
      have hrd : rd_T40 (init ++ [last]) (init.length : Int) = last := by
        rw [rdX _ _ (by rw [hlen]; omega)]; simp
      have hrr : rd_T39 ((init ++ [last]).map xr) (init.length : Int) = xr last := by
        rw [rdR _ _ (by rw [List.length_map, hlen]; omega)]; simp
      have hn1 : ((init ++ [last]).length : Int) - 1 = (init.length : Int) := by rw [hlen]; omega
      have hq : ∀ g, Ev (fun k => inode_Grow.j1 k (init ++ [last]) ((init ++ [last]).length : Int) ((last.f0 + last.f1) == a) v (init ++ [last]) a b) g → Ev (fun k => inode_Grow.f k v (init ++ [last]) a b) g := fun g h => by
        refine start g (Ev.step (fun k => ?_) h)
        rw [inode_Grow.j0, if_neg (by decide), hcl]
        simp only [Option.bind_some]
        rw [if_pos (by rw [hlen]; omega), hn1, show wrap64 ((init.length : Nat) : Int) = (init.length : Int) by rw [w64 (by omega) (by omega)], if_pos (by omega), if_pos (by rw [hlen]; omega), hrd, w64 (by omega) (by omega)]
      have hqr : ∀ r, Ev (fun k => posthorseref08_Grow.j0 k ((init ++ [last]).length : Int) ((last.f0 + last.f1) == a) a b (wrap64 (v + 1)) ((init ++ [last]).map xr)) r → Ev (fun k => posthorseref08_Grow.f k v ((init ++ [last]).map xr) a b) r := fun r hr => by
        refine rstart _ _ (fun _ => ?_) (fun h => by rw [hlen] at h; omega) hr
        rw [hn1, hrr]
        show _ = (wrap64 (last.f0 + last.f1) == a)
        rw [w64 (by omega) (by omega)]
      by_cases c : last.f0 + last.f1 = a
      · have hc : ((last.f0 + last.f1) == a) = true := beq_iff_eq.2 c
        rw [hc] at hq hqr
        have hwn : wrap64 (((init ++ [last]).length : Int) - 1) = (init.length : Int) := by rw [hn1, w64 (by omega) (by omega)]
        refine ⟨(wrap64 (v + 1), init ++ [⟨last.f0, last.f1 + b⟩], none), (wrap64 (v + 1), (init ++ [(⟨last.f0, last.f1 + b⟩ : EX)]).map xr, 0), hq _ (Ev.from 1 fun k => ?_), hqr _ (Ev.from 1 fun k => ?_), ⟨rfl, rfl, rfl, ?_, fun _ => ⟨⟨?_, ?_, ?_⟩, ?_, ?_⟩⟩⟩
        · rw [inode_Grow.j1, if_pos rfl, hwn, if_pos (by omega), if_pos (by rw [hlen]; omega), hrd, Int.toNat_natCast, w64 (n := last.f1 + b) (by omega) (by omega)]
          have : (init ++ [last]).set init.length (⟨last.f0, last.f1 + b⟩ : EX) = init ++ [⟨last.f0, last.f1 + b⟩] := by simp
          rw [this]; rfl
        · rw [posthorseref08_Grow.j0, if_pos rfl, hwn, if_pos (by omega), if_pos (by rw [List.length_map, hlen]; omega), hrr, Int.toNat_natCast, w64 (n := (xr last).f1 + b) (by show -9223372036854775808 ≤ last.f1 + b; omega) (by show last.f1 + b ≤ _; omega)]
          have : ((init ++ [last]).map xr).set init.length (⟨(xr last).f0, (xr last).f1 + b⟩ : RX) = (init ++ [(⟨last.f0, last.f1 + b⟩ : EX)]).map xr := by simp [xr]
          rw [this]
        · show (init ++ [_]).length ≤ 36; simp at h36 ⊢; omega
        · simp at h36 ⊢; omega
        · intro e he
          rcases List.mem_append.1 he with h | h
          · exact hth e (by simp [h])
          · rw [List.mem_singleton] at h
            subst h
            exact ⟨o1, by show 1 ≤ last.f1 + b; omega, by show last.f1 + b ≤ 2048; omega, by show last.f0 ≤ 2048 - (last.f1 + b); omega⟩
        · rw [List.pairwise_append] at hpw ⊢
          refine ⟨hpw.1, by simp, fun o ho e he => ?_⟩
          rw [List.mem_singleton] at he; subst he
          have d1 := hpw.2.2 o ho last (by simp)
          have d2 := hdj o (by simp [ho])
          have ho2 := (hth o (by simp [ho])).2.1
          unfold djX at d1 d2 ⊢
          dsimp only at d1 d2 ⊢
          omega
        · show v ≤ wrap64 (v + 1); rw [w64 (by omega) (by omega)]; omega
        · show wrap64 (v + 1) ≤ v + 1; rw [w64 (by omega) (by omega)]; omega
      · rw [beq_eq_false_iff_ne.2 c] at hq hqr
        obtain ⟨g, r, hg, hr, hb⟩ := app
        exact ⟨g, r, hq _ hg, hqr _ hr, hb⟩
theorem cutL_sub : ∀ (xs : List EX) (r : Int), (∀ e ∈ xs, thX e) → ∀ e ∈ cutL xs r, ∃ o ∈ xs, e.f0 = o.f0 ∧ 1 ≤ e.f1 ∧ e.f1 ≤ o.f1
  | [], _, _ => fun e he => by rw [cutL] at he; cases he
  | q :: xs, r, h => fun e he => by
    rw [cutL] at he
    rcases List.mem_append.1 he with h1 | h1
    · split at h1
      · rw [List.mem_singleton] at h1; subst h1
        refine ⟨q, by simp, rfl, by show 1 ≤ mn q.f1 r; omega, ?_⟩
        show mn q.f1 r ≤ q.f1
        rw [mn_eq]; split <;> omega
      · cases h1
    · obtain ⟨o, ho, p⟩ := cutL_sub xs _ (fun e he => h e (by simp [he])) e h1
      exact ⟨o, by simp [ho], p⟩
theorem cutL_inv : ∀ (xs : List EX) (r : Int), (∀ e ∈ xs, thX e) → xs.Pairwise djX → (∀ e ∈ cutL xs r, thX e) ∧ (cutL xs r).Pairwise djX
  | [], _, _, _ => by rw [cutL]; exact ⟨(fun e he => by cases he), List.Pairwise.nil⟩
  | q :: xs, r, h, hp => by
    have hp' := List.pairwise_cons.1 hp
    have hth' : ∀ e ∈ xs, thX e := fun e he => h e (by simp [he])
    obtain ⟨i1, i2⟩ := cutL_inv xs (wrap64 (r - mn q.f1 r)) hth' hp'.2
    obtain ⟨o1, o2, o3, o4⟩ := h q (by simp)
    have hm : mn q.f1 r ≤ q.f1 := by rw [mn_eq]; split <;> omega
    rw [cutL]
    by_cases c : mn q.f1 r > 0
    · rw [if_pos c]
      refine ⟨fun e he => ?_, ?_⟩
      · rcases List.mem_append.1 he with h1 | h1
        · rw [List.mem_singleton] at h1; subst h1
          exact ⟨o1, by show 1 ≤ mn q.f1 r; omega, by show mn q.f1 r ≤ 2048; omega, by show q.f0 ≤ 2048 - mn q.f1 r; omega⟩
        · exact i1 e h1
      · refine List.pairwise_cons.2 ⟨fun e he => ?_, i2⟩
        obtain ⟨o, ho, p1, p2, p3⟩ := cutL_sub xs _ hth' e he
        have d := hp'.1 o ho
        unfold djX at d ⊢
        dsimp only
        omega
    · rw [if_neg c]
      exact ⟨i1, i2⟩
theorem wsum {n f : Int} (h0 : 0 ≤ n) (h1 : n ≤ 100000) (h2 : 1 ≤ f) (h3 : f ≤ 2048) : wrap64 (n + f) = n + f := w64 (by omega) (by omega)
theorem wdif {b n : Int} (h0 : 0 ≤ b) (h1 : b ≤ 1000000) (h2 : 0 ≤ n) (h3 : n ≤ 100000) : wrap64 (b - n) = b - n := w64 (by omega) (by omega)
theorem wsum3 {n f : Int} {i : Nat} (h0 : n ≤ 2048 * (i : Int)) (h1 : f ≤ 2048) : n + f ≤ 2048 * ((i + 1 : Nat) : Int) := by omega
theorem cut_rest (b n f r : Int) (hf : 1 ≤ f) (hf2 : f ≤ 2048) (hb0 : 0 ≤ b) (hb1 : b ≤ 1000000) (hn0 : 0 ≤ n) (hn1 : n ≤ 1000000) (hr : r = (if b - n < 0 then 0 else b - n)) : wrap64 (r - mn f r) = (if b - (n + f) < 0 then 0 else b - (n + f)) := by
  rw [mn_eq]
  by_cases d1 : b - n < 0
  · rw [if_pos d1] at hr
    subst hr
    rw [if_pos (show (0 : Int) < f by omega), w64 (by omega) (by omega), if_pos (by omega)]; omega
  · rw [if_neg d1] at hr
    by_cases d2 : r < f
    · rw [if_pos d2, w64 (by omega) (by omega), if_pos (by omega)]; omega
    · rw [if_neg d2, w64 (by omega) (by omega), if_neg (by omega)]; omega
theorem cut_keep (b n f r : Int) (hf : 1 ≤ f) (hr : r = (if b - n < 0 then 0 else b - n)) : mn f r = (if (if b - n > f then f else b - n) < 0 then 0 else (if b - n > f then f else b - n)) := by
  rw [mn_eq]
  by_cases d1 : b - n < 0
  · rw [if_pos d1] at hr
    subst hr
    rw [if_pos (show (0 : Int) < f by omega), if_neg (show ¬ b - n > f by omega), if_pos d1]
  · rw [if_neg d1] at hr
    by_cases d2 : b - n > f
    · rw [if_pos d2, if_neg (show ¬ r < f by omega), if_neg (by omega)]
    · rw [if_neg d2, if_neg d1]
      by_cases d3 : r < f
      · rw [if_pos d3]; exact hr
      · rw [if_neg d3]; omega
/-- The document's cut, walked. -/
theorem refcut_walk (v b : Int) (ys : List EX) (hl : ys.length ≤ 36) (hth : ∀ e ∈ ys, thX e) (hb0 : 0 ≤ b) (hb1 : b ≤ 1000000) : ∀ (d i : Nat) (n r : Int) (Z F : List EX), i + d = ys.length → Z.length ≤ i → F.length ≤ i → 0 ≤ n → n ≤ 2048 * (i : Int) → r = (if b - n < 0 then 0 else b - n) → Ev (fun k => posthorseref08_Cut.l0 k b (F.map xr) n (i : Int) v (ys.map xr) v (Z.map xr)) (if ((F ++ cutF (ys.drop i) r).length : Int) > 0 then (wrap64 (v + 1), (Z ++ cutL (ys.drop i) r).map xr, (F ++ cutF (ys.drop i) r).map xr, 0) else (v, (Z ++ cutL (ys.drop i) r).map xr, (F ++ cutF (ys.drop i) r).map xr, 0)) := by
  intro d
  induction d with
  | zero =>
    intro i n r Z F hi hZ hF hn0 hn1 hr
    rw [List.drop_eq_nil_of_le (by omega), cutL, cutF, List.append_nil, List.append_nil]
    refine Ev.from 1 fun k => ?_
    rw [posthorseref08_Cut.l0, List.length_map, List.length_map, if_neg (by omega)]
    by_cases cF : (F.length : Int) > 0
    · rw [if_pos cF, if_pos cF]
    · rw [if_neg cF, if_neg cF]
  | succ d ih =>
    intro i n r Z F hi hZ hF hn0 hn1 hr
    have hil : i < ys.length := by omega
    have lZ : ∀ e : EX, (Z ++ [e]).length ≤ i + 1 := fun e => by rw [List.length_append, List.length_singleton]; exact Nat.succ_le_succ hZ
    have lF : ∀ e : EX, (F ++ [e]).length ≤ i + 1 := fun e => by rw [List.length_append, List.length_singleton]; exact Nat.succ_le_succ hF
    have hn2 : n ≤ 100000 := by clear ih hth hr; omega
    have hX0 : rd_T39 (ys.map xr) (i : Int) = xr ys[i] := by rw [rdR _ _ (by rw [List.length_map]; exact hil), List.getElem_map]
    obtain ⟨o1, o2, o3, o4⟩ := hth ys[i] (List.getElem_mem hil)
    have c0 : (i : Int) < ((ys.map xr).length : Int) := by rw [List.length_map]; omega
    have c00 : (0 : Int) ≤ (i : Int) := by omega
    have cZ : (Z.map xr).length < 8796093022208 := by rw [List.length_map]; omega
    have cF : (F.map xr).length < 8796093022208 := by rw [List.length_map]; omega
    have wi_ : wrap64 ((i : Int) + 1) = ((i + 1 : Nat) : Int) := by rw [w64 (by omega) (by omega)]; rfl
    rw [List.drop_eq_getElem_cons hil, cutL, cutF]
    generalize ys[i]'hil = q at hX0 o1 o2 o3 o4 ⊢
    have wn_ := wsum hn0 hn2 o2 o3
    have wb_ := wdif hb0 hb1 hn0 hn2
    have hmr := cut_rest b n q.f1 r o2 o3 hb0 hb1 hn0 (Int.le_trans hn2 (by decide)) hr
    have hkeep := cut_keep b n q.f1 r o2 hr
    have hn3 : 0 ≤ n + q.f1 := Int.add_nonneg hn0 (Int.le_trans (by decide) o2)
    have hn4 : n + q.f1 ≤ 2048 * ((i + 1 : Nat) : Int) := wsum3 hn1 o3
    rw [hmr]
    generalize hm : mn q.f1 r = m at hkeep ⊢
    have next : ∀ (Z' F' : List EX), Z'.length ≤ i + 1 → F'.length ≤ i + 1 → Ev (fun k => posthorseref08_Cut.l0 k b (F'.map xr) (n + q.f1) ((i + 1 : Nat) : Int) v (ys.map xr) v (Z'.map xr)) _ := fun Z' F' hZ' hF' => ih (i + 1) (n + q.f1) _ Z' F' (by rw [← hi]; omega) hZ' hF' hn3 hn4 rfl
    clear ih
    -- on to the third step
    have on3 : ∀ g, Ev (fun k => posthorseref08_Cut.j3 k b (F.map xr) n (i : Int) m v (ys.map xr) v (Z.map xr) q.f0 q.f1) g → Ev (fun k => posthorseref08_Cut.l0 k b (F.map xr) n (i : Int) v (ys.map xr) v (Z.map xr)) g := fun g hg => by
      have on2 : ∀ t, m = (if t < 0 then 0 else t) → Ev (fun k => posthorseref08_Cut.j2 k b (F.map xr) n (i : Int) t v (ys.map xr) v (Z.map xr) q.f0 q.f1) g := fun t ht => by
        refine Ev.step (fun k => ?_) hg
        rw [posthorseref08_Cut.j2, ht]
        by_cases d1 : t < 0
        · rw [if_pos d1, if_pos d1]
        · rw [if_neg d1, if_neg d1]
      refine Ev.step (fun k => ?_) (on2 _ hkeep)
      rw [posthorseref08_Cut.l0, if_pos c0, if_pos c00, hX0]
      show (if wrap64 (b - n) > q.f1 then _ else _) = _
      rw [wb_]
      by_cases d1 : b - n > q.f1
      · rw [if_pos d1, if_pos d1]; rfl
      · rw [if_neg d1, if_neg d1]; rfl
    refine on3 _ ?_
    clear on3 hkeep hmr hr
    have m1 : ∀ e : EX, (Z.map xr ++ [xr e]) = (Z ++ [e]).map xr := fun e => by rw [List.map_append]; rfl
    have m2 : ∀ e : EX, (F.map xr ++ [xr e]) = (F ++ [e]).map xr := fun e => by rw [List.map_append]; rfl
    by_cases c1 : m > 0
    · by_cases c2 : m < q.f1
      · simp only [if_pos c1, if_pos c2, ← List.append_assoc, List.append_nil]
        refine Ev.step (fun k => ?_) (next (Z ++ [⟨q.f0, m⟩]) (F ++ [⟨wrap64 (q.f0 + m), wrap64 (q.f1 - m)⟩]) (lZ _) (lF _))
        rw [posthorseref08_Cut.j3, if_pos c1, if_pos cZ, Option.bind_some, if_pos c2, if_pos cF, wi_, wn_, ← m1, ← m2]; rfl
      · simp only [if_pos c1, if_neg c2, ← List.append_assoc, List.append_nil]
        refine Ev.step (fun k => ?_) (next (Z ++ [⟨q.f0, m⟩]) F (lZ _) (Nat.le_succ_of_le hF))
        rw [posthorseref08_Cut.j3, if_pos c1, if_pos cZ, Option.bind_some, if_neg c2, wi_, wn_, ← m1]; rfl
    · by_cases c2 : m < q.f1
      · simp only [if_neg c1, if_pos c2, ← List.append_assoc, List.append_nil]
        refine Ev.step (fun k => ?_) (next Z (F ++ [⟨wrap64 (q.f0 + m), wrap64 (q.f1 - m)⟩]) (Nat.le_succ_of_le hZ) (lF _))
        rw [posthorseref08_Cut.j3, if_neg c1, if_pos c2, if_pos cF, wi_, wn_, ← m2]; rfl
      · simp only [if_neg c1, if_neg c2, ← List.append_assoc, List.append_nil]
        refine Ev.step (fun k => ?_) (next Z F (Nat.le_succ_of_le hZ) (Nat.le_succ_of_le hF))
        rw [posthorseref08_Cut.j3, if_neg c1, if_neg c2, wi_, wn_]
theorem cut_all (v : Int) (xs : List EX) (b : Int) (hv : 0 ≤ v) (hv1 : v ≤ 100) (h : InvX xs) :
    ∃ (g : Int × List EX × List EX × Option Int) (r : Int × List RX × List RX × Int), Ev (fun k => inode_Cut.f k v xs b) g ∧ Ev (fun k => posthorseref08_Cut.f k v (xs.map xr) b) r ∧ Both v (g.1, g.2.1) g.2.2.2 (r.1, r.2.1) r.2.2.2 ∧ r.2.2.1 = g.2.2.1.map xr ∧ g.2.2.1.length ≤ 36 := by
  have hsz := size_ev v xs (by have := h.1; omega) (fun e he => thX_ok (h.2.1 e he))
  have hsec := secs_ev v xs h
  have hsl := secs_len xs h.2.1
  have h36 := h.1
  have er : ∀ (hg : Ev (fun k => inode_Cut.f k v xs b) (0, [], [], some 1)) (hr : Ev (fun k => posthorseref08_Cut.f k v (xs.map xr) b) (0, [], [], 1)), ∃ (g : Int × List EX × List EX × Option Int) (r : Int × List RX × List RX × Int), Ev (fun k => inode_Cut.f k v xs b) g ∧ Ev (fun k => posthorseref08_Cut.f k v (xs.map xr) b) r ∧ Both v (g.1, g.2.1) g.2.2.2 (r.1, r.2.1) r.2.2.2 ∧ r.2.2.1 = g.2.2.1.map xr ∧ g.2.2.1.length ≤ 36 := fun hg hr => ⟨_, _, hg, hr, both_err v 1 (by decide), rfl, by simp⟩
  have b1 : Ev (fun k => inode_Cut.j0 k b true v xs) (0, [], [], some 1) := Ev.from 1 fun k => by rw [inode_Cut.j0, if_pos rfl]
  have b2 : Ev (fun k => posthorseref08_Cut.j0 k b true v (xs.map xr)) (0, [], [], 1) := Ev.from 1 fun k => by rw [posthorseref08_Cut.j0, if_pos rfl]
  by_cases c : b < 0
  · refine er ?_ ?_
    · unfold inode_Cut.f; simp only [if_pos c]; exact b1
    · unfold posthorseref08_Cut.f; simp only [if_pos c]; exact b2
  by_cases c2 : b > ((secs xs).length : Int)
  · refine er ?_ ?_
    · unfold inode_Cut.f; simp only [if_neg c]; refine Ev.bind hsz ?_; rw [decide_eq_true c2]; exact b1
    · unfold posthorseref08_Cut.f; simp only [if_neg c]; refine Ev.bind hsec ?_; rw [decide_eq_true c2]; exact b2
  have hw := cut_walk v xs (by omega) xs.length 0 b [] [] (by omega) (by simp) (by simp)
  have hwr := refcut_walk v b xs h36 h.2.1 (by omega) (by omega) xs.length 0 0 b [] [] (by omega) (by simp) (by simp) (by omega) (by simp) (by rw [if_neg (by omega)]; omega)
  rw [List.drop_zero, List.nil_append, List.nil_append] at hw hwr
  obtain ⟨i1, i2⟩ := cutL_inv xs b h.2.1 h.2.2
  have l1 := cutL_len xs b
  have l2 := cutF_len xs b
  have hinv : InvX (cutL xs b) := ⟨by omega, i1, i2⟩
  have e1 : ∀ g, Ev (fun k => inode_Cut.l0 k b [] [] xs (xs.length : Int) ((0 : Nat) : Int) v xs) g → Ev (fun k => inode_Cut.f k v xs b) g := fun g hg => by
    unfold inode_Cut.f
    simp only [if_neg c]
    refine Ev.bind hsz ?_
    rw [decide_eq_false c2]
    exact Ev.step (fun k => by rw [inode_Cut.j0, if_neg (by decide)]; rfl) hg
  have e2 : ∀ r, Ev (fun k => posthorseref08_Cut.l0 k b (([] : List EX).map xr) 0 ((0 : Nat) : Int) v (xs.map xr) v (([] : List EX).map xr)) r → Ev (fun k => posthorseref08_Cut.f k v (xs.map xr) b) r := fun r hr => by
    unfold posthorseref08_Cut.f
    simp only [if_neg c]
    refine Ev.bind hsec ?_
    rw [decide_eq_false c2]
    exact Ev.step (fun k => by rw [posthorseref08_Cut.j0, if_neg (by decide)]; rfl) hr
  by_cases c3 : ((cutF xs b).length : Int) = 0
  · rw [if_pos c3] at hw
    rw [if_neg (by omega)] at hwr
    refine ⟨_, _, e1 _ hw, e2 _ hwr, ⟨rfl, rfl, rfl, by show (cutL xs b).length ≤ 36; omega, fun _ => ⟨hinv, by show v ≤ v; omega, by show v ≤ v + 1; omega⟩⟩, ?_, by simp⟩
    show (cutF xs b).map xr = [].map xr
    rw [List.eq_nil_of_length_eq_zero (show (cutF xs b).length = 0 by omega)]
  · rw [if_neg c3] at hw
    rw [if_pos (by omega)] at hwr
    exact ⟨_, _, e1 _ hw, e2 _ hwr, ⟨rfl, rfl, rfl, by show (cutL xs b).length ≤ 36; omega, fun _ => ⟨hinv, by show v ≤ wrap64 (v + 1); rw [w64 (by omega) (by omega)]; omega, by show wrap64 (v + 1) ≤ v + 1; rw [w64 (by omega) (by omega)]; omega⟩⟩, rfl, by show (cutF xs b).length ≤ 36; omega⟩
theorem pw_set (xs : List EX) (i : Nat) (x : EX) (h : xs.Pairwise djX) (hx : ∀ o ∈ xs, djX o x) : (xs.set i x).Pairwise djX := by
  rw [List.pairwise_iff_getElem] at h ⊢
  intro p q hp hq hpq
  rw [List.length_set] at hp hq
  rw [List.getElem_set, List.getElem_set]
  by_cases c1 : i = p
  · rw [if_pos c1, if_neg (by omega)]
    exact dj_symm (hx _ (List.getElem_mem hq))
  · rw [if_neg c1]
    by_cases c2 : i = q
    · rw [if_pos c2]; exact hx _ (List.getElem_mem hp)
    · rw [if_neg c2]; exact h p q hp hq hpq
theorem move_all (v : Int) (xs : List EX) (i at_ : Int) (hv : 0 ≤ v) (hv1 : v ≤ 100) (h : InvX xs) :
    ∃ (g : Int × List EX × Int × Int × Option Int) (r : Int × List RX × Int × Int × Int), Ev (fun k => inode_Move.f k v xs i at_) g ∧ Ev (fun k => posthorseref08_Move.f k v (xs.map xr) i at_) r ∧ Both v (g.1, g.2.1) g.2.2.2.2 (r.1, r.2.1) r.2.2.2.2 ∧ r.2.2.1 = g.2.2.1 ∧ r.2.2.2.1 = g.2.2.2.1 := by
  have h36 := h.1
  have hlm : (xs.map xr).length = xs.length := List.length_map _
  have er : ∀ (hg : Ev (fun k => inode_Move.f k v xs i at_) (0, [], 0, 0, some 1)) (hr : Ev (fun k => posthorseref08_Move.f k v (xs.map xr) i at_) (0, [], 0, 0, 1)), ∃ (g : Int × List EX × Int × Int × Option Int) (r : Int × List RX × Int × Int × Int), Ev (fun k => inode_Move.f k v xs i at_) g ∧ Ev (fun k => posthorseref08_Move.f k v (xs.map xr) i at_) r ∧ Both v (g.1, g.2.1) g.2.2.2.2 (r.1, r.2.1) r.2.2.2.2 ∧ r.2.2.1 = g.2.2.1 ∧ r.2.2.2.1 = g.2.2.2.1 := fun hg hr => ⟨_, _, hg, hr, both_err v 1 (by decide), rfl, rfl⟩
  have b1 : Ev (fun k => inode_Move.j0 k i at_ true v xs) (0, [], 0, 0, some 1) := Ev.from 1 fun k => by rw [inode_Move.j0, if_pos rfl]
  by_cases c : i < 0
  · refine er ?_ ?_
    · unfold inode_Move.f; simp only [if_pos c]; exact b1
    · unfold posthorseref08_Move.f; simp only [if_pos c]; exact Ev.now _
  by_cases c2 : i ≥ (xs.length : Int)
  · refine er ?_ ?_
    · unfold inode_Move.f; simp only [if_neg c]; rw [decide_eq_true c2]; exact b1
    · unfold posthorseref08_Move.f; simp only [if_neg c, hlm, if_pos c2]; exact Ev.now _
  obtain ⟨j, rfl⟩ := Int.eq_ofNat_of_zero_le (show 0 ≤ i by omega)
  have hj : j < xs.length := by omega
  have hX := rdX xs j hj
  have hR : rd_T39 (xs.map xr) (j : Int) = xr xs[j] := by rw [rdR _ _ (by rw [hlm]; exact hj), List.getElem_map]
  obtain ⟨o1, o2, o3, o4⟩ := h.2.1 xs[j] (List.getElem_mem hj)
  generalize hq : xs[j] = q at hX hR o1 o2 o3 o4
  have hfree := free_ev v xs h at_ q.f1
  have s1 : ∀ g m, (decide (thX ⟨at_, q.f1⟩) = true → inode_Inode_meets.f v xs at_ q.f1 = some m) → (decide (thX ⟨at_, q.f1⟩) = false → m = true) → Ev (fun k => inode_Move.j1 k (j : Int) m v xs q.f0 q.f1 at_ q.f1) g → Ev (fun k => inode_Move.f k v xs (j : Int) at_) g := fun g m hm hm0 hg => by
    unfold inode_Move.f
    simp only [if_neg c]
    rw [decide_eq_false c2]
    refine Ev.step (fun k => ?_) hg
    rw [inode_Move.j0, if_neg (by decide), if_pos (by omega), if_pos (by omega), hX, there_f, Option.bind_some]
    cases hd : decide (thX ⟨at_, q.f1⟩) with
    | true => rw [if_pos rfl, hm hd, Option.bind_some]
    | false => rw [if_neg (by decide), hm0 hd]
  have s2 : ∀ r (t : Bool), Ev (fun k => posthorseref08_free.f k v (xs.map xr) at_ q.f1) t → (t = false → r = (0, [], 0, 0, 1)) → (t = true → r = (wrap64 (v + 1), (xs.set j ⟨at_, q.f1⟩).map xr, q.f0, q.f1, 0)) → Ev (fun k => posthorseref08_Move.f k v (xs.map xr) (j : Int) at_) r := fun r t ht hf htt => by
    unfold posthorseref08_Move.f
    simp only [if_neg c, hlm, if_neg c2, if_pos (show (0 : Int) ≤ (j : Int) by omega), if_pos (show (j : Int) < (xs.length : Int) by omega), hR]
    refine Ev.bind ht ?_
    cases t with
    | false => rw [hf rfl]; simp only [Bool.false_eq_true, if_false]; exact Ev.now _
    | true =>
      rw [htt rfl]
      simp only [if_true, Option.bind_some, List.nil_append, List.length_nil, Nat.zero_add, hlm, if_pos (show xs.length < 8796093022208 by omega), if_pos (show (j : Int) < (xs.length : Int) by omega), hR, Int.toNat_natCast]
      have : (xs.map xr).set j (⟨at_, (xr q).f1⟩ : RX) = (xs.set j ⟨at_, q.f1⟩).map xr := by rw [List.map_set]; rfl
      rw [this]
      exact Ev.now _
  by_cases ht : thX ⟨at_, q.f1⟩
  case neg =>
    rw [decide_eq_false ht] at s1 hfree
    rw [Bool.false_and] at hfree
    exact er (s1 _ true (fun h => by cases h) (fun _ => rfl) (Ev.from 1 fun k => by rw [inode_Move.j1, if_pos rfl])) (s2 _ false hfree (fun _ => rfl) (fun h => by cases h))
  rw [decide_eq_true ht] at s1 hfree
  rw [Bool.true_and] at hfree
  have hme : inode_Inode_meets.f v xs at_ q.f1 = some (xs.any (mtB at_ q.f1)) := by unfold inode_Inode_meets.f; rw [if_pos (by omega)]; exact any_f at_ q.f1 ht xs h.2.1
  cases hm : xs.any (mtB at_ q.f1) with
  | true =>
    rw [hm] at hfree hme
    exact er (s1 _ true (fun _ => hme) (fun h => by cases h) (Ev.from 1 fun k => by rw [inode_Move.j1, if_pos rfl])) (s2 _ false hfree (fun _ => rfl) (fun h => by cases h))
  | false =>
    rw [hm] at hfree hme
    have hdj : ∀ o ∈ xs, djX o ⟨at_, q.f1⟩ := fun o ho => mt_dj (by
      have := List.any_eq_false.1 hm o ho
      simpa using this)
    have hcl : inode_Extent.f xs = some xs := by unfold inode_Extent.f; rw [if_pos (by omega)]
    refine ⟨(wrap64 (v + 1), xs.set j ⟨at_, q.f1⟩, q.f0, q.f1, none), (wrap64 (v + 1), (xs.set j ⟨at_, q.f1⟩).map xr, q.f0, q.f1, 0), s1 _ false (fun _ => hme) (fun h => by cases h) (Ev.from 1 fun k => ?_), s2 _ true hfree (fun h => by cases h) (fun _ => rfl), ⟨rfl, rfl, rfl, ?_, fun _ => ⟨⟨?_, fun e he => ?_, pw_set xs j _ h.2.2 hdj⟩, ?_, ?_⟩⟩, rfl, rfl⟩
    · rw [inode_Move.j1, if_neg (by decide), hcl, Option.bind_some, if_pos (by omega), if_pos (by omega), Int.toNat_natCast]; rfl
    · show (xs.set j _).length ≤ 36; rw [List.length_set]; exact h36
    · rw [List.length_set]; exact h36
    · rcases List.mem_or_eq_of_mem_set he with h1 | h1
      · exact h.2.1 e h1
      · subst h1; exact ht
    · show v ≤ wrap64 (v + 1); rw [w64 (by omega) (by omega)]; omega
    · show wrap64 (v + 1) ≤ v + 1; rw [w64 (by omega) (by omega)]; omega
theorem same_ev (v : Int) (xs : List EX) (hl : xs.length ≤ 1000) : Ev (fun k => posthorselaw08_same.f k v xs v (xs.map xr)) true := by
  have hlm : (xs.map xr).length = xs.length := List.length_map _
  have lp : ∀ (d i : Nat), i + d = xs.length → Ev (fun k => posthorselaw08_same.l0 k (i : Int) v xs v (xs.map xr)) true := by
    intro d
    induction d with
    | zero =>
      intro i hi
      exact Ev.from 1 fun k => by rw [posthorselaw08_same.l0, hlm, if_neg (by omega)]
    | succ d ih =>
      intro i hi
      have hil : i < xs.length := by omega
      refine Ev.step (fun k => ?_) (ih (i + 1) (by omega))
      rw [posthorselaw08_same.l0, hlm, if_pos (by omega), if_pos (by omega), if_pos (by omega), rdX xs i hil, rdR _ i (by rw [hlm]; exact hil), List.getElem_map, w64 (by omega) (by omega), if_neg (by simp [xr])]
      rfl
  unfold posthorselaw08_same.f
  simp only [if_true]
  refine Ev.step (fun k => ?_) (lp xs.length 0 (by omega))
  rw [posthorselaw08_same.j0, hlm, if_neg (by simp)]; rfl

/-! ### InodePlays -/
abbrev AX := S31
theorem plays_go (l : List AX) : ∀ (d i : Nat) (v : Int) (xs : List EX), i + d = 60 → InvX xs → 0 ≤ v → v ≤ (i : Int) → Ev (fun k => posthorselaw08_InodePlays.l0 k l (i : Int) v xs v (xs.map xr)) true := by
  have done : ∀ (i : Nat) (v : Int) (xs : List EX), ¬ ((i : Int) < (l.length : Int) ∧ (i : Int) < 60) → Ev (fun k => posthorselaw08_InodePlays.l0 k l (i : Int) v xs v (xs.map xr)) true := fun i v xs hn => by
    have hj : Ev (fun k => posthorselaw08_InodePlays.j1 k l (i : Int) false v xs v (xs.map xr)) true := Ev.from 1 fun k => by rw [posthorselaw08_InodePlays.j1, if_neg (by decide)]
    refine Ev.step (fun k => ?_) hj
    rw [posthorselaw08_InodePlays.l0]
    by_cases c : (i : Int) < (l.length : Int)
    · rw [if_pos c, decide_eq_false (by omega)]
    · rw [if_neg c]
  intro d
  induction d with
  | zero => exact fun i v xs hi _ _ _ => done i v xs (by omega)
  | succ d ih =>
    intro i v xs hi hx hv0 hv1
    by_cases c : (i : Int) < (l.length : Int) ∧ (i : Int) < 60
    case neg => exact done i v xs c
    obtain ⟨c1, c2⟩ := c
    have h36 := hx.1
    have wi : wrap64 ((i : Int) + 1) = ((i + 1 : Nat) : Int) := by rw [w64 (by omega) (by omega)]; rfl
    -- behind an act
    have tail : ∀ (g : Int × List EX) (ge : Option Int) (r : Int × List RX) (re : Int), Both v g ge r re → Ev (fun k => posthorselaw08_InodePlays.j3 k l (i : Int) xs re ge v xs v (xs.map xr) g.1 g.2 r.1 r.2) true := by
      rintro ⟨gv, gx⟩ ge ⟨rv, rx⟩ re ⟨h1, h2, h3, h4, h5⟩
      dsimp only at h1 h2 h3 h4 h5 ⊢
      subst h1 h2 h3
      have fin : Ev (fun k => posthorselaw08_InodePlays.l2 k l (i : Int) xs (ge.getD 0) ((xs.length : Nat) : Int) v xs v (xs.map xr) rv gx rv (gx.map xr)) true := by
        refine Ev.suc ?_
        simp only [posthorselaw08_InodePlays.l2, if_neg (show ¬ ((xs.length : Int) < (xs.length : Int)) by omega), wi]
        by_cases ce : ge.getD 0 = 0
        · obtain ⟨i1, i2, i3⟩ := h5 ce
          simp only [if_pos ce, right_f rv gx (by omega) (by omega) i1, Option.bind_some, if_true]
          exact ih (i + 1) rv gx (by omega) i1 (by omega) (by omega)
        · simp only [if_neg ce, right_f v xs (by omega) (by omega) hx, Option.bind_some, if_true]
          exact ih (i + 1) v xs (by omega) hx (by omega) (by omega)
      have cmp : ∀ (e p : Nat), p + e = xs.length → Ev (fun k => posthorselaw08_InodePlays.l2 k l (i : Int) xs (ge.getD 0) (p : Int) v xs v (xs.map xr) rv gx rv (gx.map xr)) true := by
        intro e
        induction e with
        | zero => intro p hp; rw [show p = xs.length by omega]; exact fin
        | succ e ihe =>
          intro p hp
          refine Ev.step (fun k => ?_) (ihe (p + 1) (by omega))
          rw [posthorselaw08_InodePlays.l2, if_pos (by omega), if_pos (by omega), if_pos (by omega), w64 (by omega) (by omega), if_neg (by simp)]
          rfl
      refine Ev.suc ?_
      simp only [posthorselaw08_InodePlays.j3]
      have hcode : posthorselaw08_code.f ge = some (ge.getD 0) := by cases ge <;> rfl
      simp only [hcode, Option.bind_some, if_true]
      refine Ev.bind (same_ev rv gx (by omega)) ?_
      simp only [if_true]
      refine Ev.suc ?_
      simp only [posthorselaw08_InodePlays.j4]
      rw [show ((xs.length : Int) != (xs.length : Int)) = false by simp]
      simp only [Bool.false_eq_true, if_false]
      exact cmp xs.length 0 (by omega)
    refine Ev.suc ?_
    simp only [posthorselaw08_InodePlays.l0, if_pos c1]
    rw [decide_eq_true c2]
    refine Ev.suc ?_
    simp only [posthorselaw08_InodePlays.j1, if_true, if_pos c1, if_pos (show (0 : Int) ≤ (i : Int) by omega), Option.bind_some, List.nil_append, List.length_nil, Nat.zero_add, if_pos (show xs.length < 8796093022208 by omega)]
    generalize rd_T31 l (i : Int) = x
    by_cases k2 : Int.tmod (wrap64 ((Int.tmod x.f0 4) + 4)) 4 = 2
    · simp only [if_pos k2]
      obtain ⟨⟨gv, gx, gf, ge⟩, ⟨rv, rx, rf, re⟩, hg, hr, hb, hf, hfl⟩ := cut_all v xs x.f1 hv0 (by omega) hx
      refine Ev.bind hg (Ev.bind hr ?_)
      dsimp only at hb hf hfl ⊢
      subst hf
      simp only [List.length_map, if_true]
      have hlm : (gf.map xr).length = gf.length := List.length_map _
      have t := tail (gv, gx) ge (rv, rx) re hb
      have cmp : ∀ (e p : Nat), p + e = gf.length → Ev (fun k => posthorselaw08_InodePlays.l1 k l (i : Int) xs gf ge (gf.map xr) re (p : Int) v xs v (xs.map xr) gv gx rv rx) true := by
        intro e
        induction e with
        | zero =>
          intro p hp
          refine Ev.step (fun k => ?_) t
          rw [posthorselaw08_InodePlays.l1, hlm, if_neg (by omega)]
        | succ e ihe =>
          intro p hp
          refine Ev.step (fun k => ?_) (ihe (p + 1) (by omega))
          rw [posthorselaw08_InodePlays.l1, hlm, if_pos (by omega), if_pos (by omega), if_pos (by omega), w64 (by omega) (by omega), rdX gf p (by omega), rdR _ p (by rw [hlm]; omega), List.getElem_map, if_neg (by simp [xr])]
          rfl
      exact cmp gf.length 0 (by omega)
    · simp only [if_neg k2]
      by_cases k3 : Int.tmod (wrap64 ((Int.tmod x.f0 4) + 4)) 4 = 3
      · simp only [if_pos k3]
        obtain ⟨⟨gv, gx, g1, g2, ge⟩, ⟨rv, rx, r1, r2, re⟩, hg, hr, hb, e1, e2⟩ := move_all v xs x.f1 x.f2 hv0 (by omega) hx
        refine Ev.bind hg (Ev.bind hr ?_)
        dsimp only at hb e1 e2 ⊢
        subst e1 e2
        rw [show (!(r1 == r1) || !(r2 == r2)) = false by simp]
        simp only [Bool.false_eq_true, if_false]
        exact tail (gv, gx) ge (rv, rx) re hb
      · simp only [if_neg k3]
        obtain ⟨⟨gv, gx, ge⟩, ⟨rv, rx, re⟩, hg, hr, hb⟩ := grow_all v xs x.f1 x.f2 hv0 (by omega) hx
        refine Ev.bind hg (Ev.bind hr ?_)
        exact tail (gv, gx) ge (rv, rx) re hb
theorem InodePlays : InodePlays.Pure := by
  intro l0 _
  refine Ev.rounds (g := fun k => posthorselaw08_InodePlays.f k l0) ?_
  unfold posthorselaw08_InodePlays.f
  refine Ev.bind speaks08_ev ?_
  simp only [if_true]
  exact plays_go l0 60 0 0 [] (by omega) ⟨by simp, (fun e he => by cases he), List.Pairwise.nil⟩ (by omega) (by omega)

end Go.Proofs.YtmncfcebjohloaaDoor.Pure
