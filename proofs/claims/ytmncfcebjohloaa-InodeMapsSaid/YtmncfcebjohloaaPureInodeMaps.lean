/- InodeMaps: the pure law; for every input, no condition. -/
import Derived.Test.YtmncfcebjohloaaVInodeMapsx10
import Derived.OpenShut
import Derived.Lib.IndexEntry
namespace Go.Proofs.Ytmncfcebjohloaa.Pure
open Go Go.RowKit Go.Proofs.Ytmncfcebjohloaa.VInodeMaps Go.Proofs.YtmncfcebjohloaaW.PrintWords Go.Proofs.YtmncfcebjohloaaW.PrintLast
set_option linter.unusedSimpArgs false
set_option linter.unusedVariables false

def InodeMaps.Pure : Prop := ∀ (l0 : List (S41)) (a1 : Int) (a2 : Int), (l0.length * 16 ≤ 140737488351232 ∧ l0.length ≤ maxLen ∧ ∀ l0y ∈ l0, ((Lit.int .i64 l0y.f0).wf = true ∧ (Lit.int .i64 l0y.f1).wf = true)) → (Lit.int .i64 a1).wf = true → (Lit.int .i64 a2).wf = true → ∃ k, posthorselaw08_InodeMaps.f k l0 a1 a2 = some true
/-! ### base -/
theorem dl (s : ByteArray) : s.toList = s.data.toList := Lib.toList_data s
theorem deq {a b : ByteArray} : a = b ↔ a.data.toList = b.data.toList := ⟨fun h => by rw [h], fun h => Go.WideShapes.bytes_inj h⟩
theorem dapp (a b : ByteArray) : (a ++ b).data.toList = a.data.toList ++ b.data.toList := by simp
theorem dlen (a : ByteArray) : a.data.toList.length = a.size := by rw [Array.length_toList]; rfl
theorem w64 {n : Int} (h0 : -9223372036854775808 ≤ n) (h1 : n ≤ 9223372036854775807) : wrap64 n = n := by unfold wrap64; omega
theorem i64b {n : Int} (h : (Lit.int .i64 n).wf = true) : -9223372036854775808 ≤ n ∧ n ≤ 9223372036854775807 := bounds_i64 h
theorem u8w (n : Int) : IntKind.u8.wrap n = n % 256 := IntKind.wrap_u8 n
theorem Ev.all {α : Type} {g : Nat → Option α} {r : α} (h : ∀ k, g k = some r) : Ev g r := ⟨0, fun k _ => h k⟩
theorem Ev.bindS {α β : Type} {g : Nat → Option α} {f : Nat → α → Option β} {a : α} {r : β} (h : Ev g a) (k : Ev (fun n => f n a) r) : Ev (fun n => (g n).bind (f n)) r := Ev.bind h k
theorem Ev.from {α : Type} {g : Nat → Option α} {r : α} (j : Nat) (h : ∀ k, g (k + j) = some r) : Ev g r := ⟨j, fun k hk => by have := h (k - j); rwa [Nat.sub_add_cancel hk] at this⟩
theorem Ev.to {α : Type} {g : Nat → Option α} {r : α} (h : Ev g r) : ∃ k, g k = some r := h.rounds
theorem Ev.at_ {α : Type} {g : Nat → Option α} {r : α} (hg : ∀ k, LeO (g k) (g (k + 1))) {j : Nat} (h : g j = some r) : Ev g r := Ev.of hg h

/-! ### speaks08 -/
theorem speaks08_ev : Ev (fun k => posthorselaw08_speaks.f k) true := Ev.at_ (fun k => posthorselaw08_speaks.mono k) (j := 20) (by decide +kernel)

/-! ### ext08 -/
/-- The sectors of an extent. -/
def runX (a n : Int) : List Int := (List.range n.toNat).map fun (k : Nat) => a + (k : Int)
theorem runX_len (a n : Int) : (runX a n).length = n.toNat := by simp [runX]
theorem runX_get (a n : Int) (j : Nat) (h : j < n.toNat) : (runX a n).getD j 0 = a + (j : Int) := by
  unfold runX
  rw [List.getD_eq_getElem?_getD, List.getElem?_map, List.getElem?_range h]; rfl
abbrev EX := S46
/-- The sectors of all. -/
def secs (xs : List EX) : List Int := xs.flatMap fun e => runX e.f0 e.f1
theorem secs_cons (e : EX) (xs : List EX) : secs (e :: xs) = runX e.f0 e.f1 ++ secs xs := rfl
theorem secs_app (xs ys : List EX) : secs (xs ++ ys) = secs xs ++ secs ys := by unfold secs; rw [List.flatMap_append]
/-- An extent within bounds. -/
def okX (e : EX) : Prop := 0 ≤ e.f0 ∧ e.f0 ≤ 1000000 ∧ 1 ≤ e.f1 ∧ e.f1 ≤ 1000000
/-- What Map answers. -/
def mapS : List EX → Int → Int × Bool
  | [], _ => (0, false)
  | e :: xs, b => if b < e.f1 then (wrap64 (e.f0 + b), true) else mapS xs (wrap64 (b - e.f1))
theorem mapS_secs : ∀ (xs : List EX) (b : Int), (∀ e ∈ xs, okX e) → 0 ≤ b → b ≤ 9223372036854775807 → mapS xs b = if b < ((secs xs).length : Int) then ((secs xs).getD b.toNat 0, true) else (0, false)
  | [], b, _, h0, _ => by rw [mapS, if_neg (by simp [secs]; omega)]
  | e :: xs, b, hx, h0, h1 => by
    obtain ⟨e0, e1, e2, e3⟩ := hx e (by simp)
    have hl : (secs (e :: xs)).length = e.f1.toNat + (secs xs).length := by rw [secs_cons, List.length_append, runX_len]
    rw [mapS]
    by_cases c : b < e.f1
    · rw [if_pos c, if_pos (by omega), w64 (by omega) (by omega)]
      congr 1
      rw [secs_cons, List.getD_eq_getElem?_getD, List.getElem?_append_left (by rw [runX_len]; omega), ← List.getD_eq_getElem?_getD, runX_get _ _ _ (by omega)]
      omega
    · rw [if_neg c, w64 (by omega) (by omega), mapS_secs xs (b - e.f1) (fun y hy => hx y (by simp [hy])) (by omega) (by omega)]
      by_cases c2 : b - e.f1 < ((secs xs).length : Int)
      · rw [if_pos c2, if_pos (by omega)]
        congr 1
        rw [secs_cons, List.getD_eq_getElem?_getD, List.getD_eq_getElem?_getD, List.getElem?_append_right (by rw [runX_len]; omega), runX_len]
        congr 2
        omega
      · rw [if_neg c2, if_neg (by omega)]
theorem rdX (xs : List EX) (i : Nat) (h : i < xs.length) : rd_T46 xs (i : Int) = xs[i] := by
  unfold rd_T46
  rw [Int.toNat_natCast, List.getD_eq_getElem?_getD, List.getElem?_eq_getElem h]; rfl
theorem map_ev (v : Int) (xs : List EX) (hl : xs.length ≤ 1000000) (b : Int) : Ev (fun k => inode_Map.f k v xs b) (if b < 0 then (0, false) else mapS xs b) := by
  unfold inode_Map.f
  by_cases h0 : b < 0
  · simp only [if_pos h0]; exact Ev.now _
  · simp only [if_neg h0]
    have lp : ∀ (d i : Nat) (b : Int), i + d = xs.length → Ev (fun k => inode_Map.l0 k b xs (xs.length : Int) (i : Int)) (mapS (xs.drop i) b) := by
      intro d
      induction d with
      | zero =>
        intro i b hi
        rw [List.drop_eq_nil_of_le (by omega)]
        refine Ev.from 1 fun k => ?_
        rw [inode_Map.l0, if_neg (by omega)]; rfl
      | succ d ih =>
        intro i b hi
        have hil : i < xs.length := by omega
        rw [List.drop_eq_getElem_cons hil, mapS]
        by_cases c : b < (xs[i]).f1
        · rw [if_pos c]
          refine Ev.from 1 fun k => ?_
          rw [inode_Map.l0, if_pos (by omega), if_pos (by omega), if_pos (by omega), rdX xs i hil, if_pos c]
        · rw [if_neg c]
          refine Ev.step (fun k => ?_) (ih (i + 1) _ (by omega))
          rw [inode_Map.l0, if_pos (by omega), if_pos (by omega), if_pos (by omega), rdX xs i hil, if_neg c, w64 (n := (i : Int) + 1) (by omega) (by omega)]
          rfl
    have := lp xs.length 0 b (by omega)
    rw [List.drop_zero] at this
    exact this
/-- What Block answers. -/
def blockS : List EX → Int → Int → Int × Bool
  | [], _, _ => (0, false)
  | e :: xs, s, n => if s ≥ e.f0 then (if wrap64 (s - e.f0) < e.f1 then (wrap64 (wrap64 (n + s) - e.f0), true) else blockS xs s (wrap64 (n + e.f1))) else blockS xs s (wrap64 (n + e.f1))
theorem block_ev (v : Int) (xs : List EX) (hl : xs.length ≤ 1000000) (s : Int) : Ev (fun k => inode_Block.f k v xs s) (blockS xs s 0) := by
  unfold inode_Block.f
  have lp : ∀ (d i : Nat) (n : Int), i + d = xs.length → Ev (fun k => inode_Block.l0 k s n xs (xs.length : Int) (i : Int)) (blockS (xs.drop i) s n) := by
    intro d
    induction d with
    | zero =>
      intro i n hi
      rw [List.drop_eq_nil_of_le (by omega)]
      refine Ev.from 1 fun k => ?_
      rw [inode_Block.l0, if_neg (by omega)]; rfl
    | succ d ih =>
      intro i n hi
      have hil : i < xs.length := by omega
      rw [List.drop_eq_getElem_cons hil, blockS]
      have go := ih (i + 1) (wrap64 (n + (xs[i]).f1)) (by omega)
      by_cases c : s ≥ (xs[i]).f0
      · rw [if_pos c]
        by_cases c2 : wrap64 (s - (xs[i]).f0) < (xs[i]).f1
        · rw [if_pos c2]
          refine Ev.from 1 fun k => ?_
          rw [inode_Block.l0, if_pos (by omega), if_pos (by omega), if_pos (by omega), rdX xs i hil, if_pos c, if_pos c2]
        · rw [if_neg c2]
          refine Ev.step (fun k => ?_) go
          rw [inode_Block.l0, if_pos (by omega), if_pos (by omega), if_pos (by omega), rdX xs i hil, if_pos c, if_neg c2, w64 (n := (i : Int) + 1) (by omega) (by omega)]
          rfl
      · rw [if_neg c]
        refine Ev.step (fun k => ?_) go
        rw [inode_Block.l0, if_pos (by omega), if_pos (by omega), if_pos (by omega), rdX xs i hil, if_neg c, w64 (n := (i : Int) + 1) (by omega) (by omega)]
        rfl
  have := lp xs.length 0 0 (by omega)
  rw [List.drop_zero] at this
  exact this
/-- A number's place in a list; -1. -/
def hasL : List Int → Int → Int → Int
  | [], _, _ => -1
  | y :: S, n, i => if y = n then i else hasL S n (i + 1)
theorem hasL_run (S : List Int) (s : Int) : ∀ (m : Nat) (a i : Int), hasL (((List.range m).map fun (k : Nat) => a + (k : Int)) ++ S) s i = if a ≤ s ∧ s < a + (m : Int) then i + (s - a) else hasL S s (i + (m : Int))
  | 0, a, i => by
    rw [if_neg (by omega)]
    simp
  | m + 1, a, i => by
    have e : ((List.range (m + 1)).map fun (k : Nat) => a + (k : Int)) ++ S = a :: (((List.range m).map fun (k : Nat) => (a + 1) + (k : Int)) ++ S) := by
      rw [List.range_succ_eq_map, List.map_cons, List.map_map]
      have : ((fun (k : Nat) => a + (k : Int)) ∘ Nat.succ) = fun (k : Nat) => (a + 1) + (k : Int) := by
        funext k
        show a + ((k + 1 : Nat) : Int) = _
        omega
      rw [this]
      show (a + ((0 : Nat) : Int)) :: _ = _
      rw [show a + ((0 : Nat) : Int) = a by omega]; rfl
    rw [e, hasL, hasL_run S s m (a + 1) (i + 1)]
    by_cases c : a = s
    · rw [if_pos c, if_pos (by omega)]; omega
    · rw [if_neg c]
      by_cases c2 : a + 1 ≤ s ∧ s < a + 1 + (m : Int)
      · rw [if_pos c2, if_pos (by omega)]; omega
      · rw [if_neg c2, if_neg (by omega)]
        congr 1; omega
theorem block_has : ∀ (xs : List EX) (s n : Int), (∀ e ∈ xs, okX e) → -9223372036854775808 ≤ s → s ≤ 9223372036854775807 → 0 ≤ n → n + (xs.length : Int) * 1000000 ≤ 1000000000000 → blockS xs s n = if 0 ≤ hasL (secs xs) s n then (hasL (secs xs) s n, true) else (0, false)
  | [], s, n, _, _, _, _, _ => by rw [blockS, secs, List.flatMap_nil, hasL, if_neg (by decide)]
  | e :: xs, s, n, hx, hs0, hs1, hn, hm => by
    obtain ⟨e0, e1, e2, e3⟩ := hx e (by simp)
    have hm' : n + ((xs.length : Int) + 1) * 1000000 ≤ 1000000000000 := by
      have : ((e :: xs).length : Int) = (xs.length : Int) + 1 := by simp
      rwa [this] at hm
    have ih := block_has xs s (n + e.f1) (fun y hy => hx y (by simp [hy])) hs0 hs1 (by omega) (by omega)
    rw [blockS, secs_cons]
    unfold runX
    rw [hasL_run (secs xs) s e.f1.toNat e.f0 n, show ((e.f1.toNat : Nat) : Int) = e.f1 by omega, w64 (n := n + e.f1) (by omega) (by omega)]
    by_cases c : s ≥ e.f0
    · rw [if_pos c, w64 (n := s - e.f0) (by omega) (by omega)]
      by_cases c2 : s - e.f0 < e.f1
      · rw [if_pos c2, if_pos (show e.f0 ≤ s ∧ s < e.f0 + e.f1 by omega), if_pos (by omega), w64 (n := n + s) (by omega) (by omega), w64 (by omega) (by omega)]
        congr 1; omega
      · rw [if_neg c2, if_neg (show ¬ (e.f0 ≤ s ∧ s < e.f0 + e.f1) by omega)]; exact ih
    · rw [if_neg c, if_neg (show ¬ (e.f0 ≤ s ∧ s < e.f0 + e.f1) by omega)]; exact ih
theorem size_ev (v : Int) (xs : List EX) (hl : xs.length ≤ 1000) (hx : ∀ e ∈ xs, okX e) : Ev (fun k => inode_Size.f k v xs) ((secs xs).length : Int) := by
  unfold inode_Size.f
  have lp : ∀ (d i : Nat) (n : Int), i + d = xs.length → 0 ≤ n → n ≤ (i : Int) * 1000000 → Ev (fun k => inode_Size.l0 k n xs (xs.length : Int) (i : Int)) (n + ((secs (xs.drop i)).length : Int)) := by
    intro d
    induction d with
    | zero =>
      intro i n hi _ _
      rw [List.drop_eq_nil_of_le (by omega)]
      refine Ev.from 1 fun k => ?_
      rw [inode_Size.l0, if_neg (by omega)]; simp [secs]
    | succ d ih =>
      intro i n hi h0 h1
      have hil : i < xs.length := by omega
      obtain ⟨e0, e1, e2, e3⟩ := hx xs[i] (List.getElem_mem hil)
      have go := ih (i + 1) (n + (xs[i]).f1) (by omega) (by omega) (by omega)
      rw [List.drop_eq_getElem_cons hil, secs_cons, List.length_append, runX_len]
      have e : n + ((((xs[i]).f1.toNat + (secs (xs.drop (i + 1))).length : Nat)) : Int) = n + (xs[i]).f1 + ((secs (xs.drop (i + 1))).length : Int) := by omega
      rw [e]
      refine Ev.step (fun k => ?_) go
      rw [inode_Size.l0, if_pos (by omega), if_pos (by omega), if_pos (by omega), rdX xs i hil, w64 (n := n + (xs[i]).f1) (by omega) (by omega), w64 (n := (i : Int) + 1) (by omega) (by omega)]
      rfl
  have := lp xs.length 0 0 (by omega) (by omega) (by omega)
  rw [List.drop_zero, Int.zero_add] at this
  exact this

/-! ### ref08 -/
abbrev RX := S78
def secsR (ys : List RX) : List Int := ys.flatMap fun e => runX e.f0 e.f1
theorem rdR (ys : List RX) (i : Nat) (h : i < ys.length) : rd_T78 ys (i : Int) = ys[i] := by
  unfold rd_T78
  rw [Int.toNat_natCast, List.getD_eq_getElem?_getD, List.getElem?_eq_getElem h]; rfl
/-- An extent that may be on a device of 2048 sectors. -/
def goodR (e : RX) : Prop := 1 ≤ e.f1 ∧ 0 ≤ e.f0 ∧ e.f1 ≤ 2048 ∧ e.f0 ≤ 2048 - e.f1
theorem refRight_ev (v : Int) (ys : List RX) (hl : ys.length ≤ 1000) : ∃ b, Ev (fun k => posthorseref08_Right.f k v ys 2048) b ∧ (b = true → ys.length ≤ 36 ∧ ∀ e ∈ ys, goodR e) := by
  have bad : Ev (fun k => posthorseref08_Right.j0 k 2048 true v ys) false := Ev.from 1 fun k => by rw [posthorseref08_Right.j0, if_pos rfl]
  unfold posthorseref08_Right.f
  simp only [if_neg (show ¬ (2048 : Int) < 1 by decide), if_neg (show ¬ (2048 : Int) > 2048 by decide)]
  by_cases h1 : v < 0
  · simp only [if_pos h1]; exact ⟨false, bad, fun h => by cases h⟩
  by_cases h2 : v ≥ 281474976710656
  · simp only [if_neg h1, if_pos h2]; exact ⟨false, bad, fun h => by cases h⟩
  simp only [if_neg h1, if_neg h2]
  by_cases h3 : (ys.length : Int) > 36
  · rw [decide_eq_true h3]; exact ⟨false, bad, fun h => by cases h⟩
  rw [decide_eq_false h3]
  have lp : ∀ (d i : Nat) (seen : List Bool), i + d = ys.length → seen.length = 2048 → ∃ b, Ev (fun k => posthorseref08_Right.l0 k 2048 seen (i : Int) v ys) b ∧ (b = true → ∀ e ∈ ys.drop i, goodR e) := by
    intro d
    induction d with
    | zero =>
      intro i seen hi hs
      refine ⟨true, Ev.from 1 fun k => by rw [posthorseref08_Right.l0, if_neg (by omega)], fun _ e he => ?_⟩
      rw [List.drop_eq_nil_of_le (by omega)] at he
      cases he
    | succ d ih =>
      intro i seen hi hs
      have hil : i < ys.length := by omega
      have badj : ∀ x : RX, Ev (fun k => posthorseref08_Right.j2 k 2048 seen (i : Int) true v ys x.f0 x.f1) false := fun x => Ev.from 1 fun k => by rw [posthorseref08_Right.j2, if_pos rfl]
      have st : ∀ b, Ev (fun k => if (ys[i]).f1 < 1 then (posthorseref08_Right.j2 k 2048 seen (i : Int) true v ys (ys[i]).f0 (ys[i]).f1) else (if (ys[i]).f0 < 0 then (posthorseref08_Right.j2 k 2048 seen (i : Int) true v ys (ys[i]).f0 (ys[i]).f1) else (if (ys[i]).f1 > 2048 then (posthorseref08_Right.j2 k 2048 seen (i : Int) true v ys (ys[i]).f0 (ys[i]).f1) else (posthorseref08_Right.j2 k 2048 seen (i : Int) (decide ((ys[i]).f0 > wrap64 (2048 - (ys[i]).f1))) v ys (ys[i]).f0 (ys[i]).f1)))) b → Ev (fun k => posthorseref08_Right.l0 k 2048 seen (i : Int) v ys) b := fun b h => by
        refine Ev.step (fun k => ?_) h
        rw [posthorseref08_Right.l0, if_pos (by omega), if_pos (by omega), rdR ys i hil]
      have fls : ∀ {g : Nat → Option Bool}, Ev g false → (∀ b, Ev g b → Ev (fun k => posthorseref08_Right.l0 k 2048 seen (i : Int) v ys) b) → ∃ b, Ev (fun k => posthorseref08_Right.l0 k 2048 seen (i : Int) v ys) b ∧ (b = true → ∀ e ∈ ys.drop i, goodR e) := fun h hg => ⟨false, hg _ h, fun h => by cases h⟩
      by_cases g1 : (ys[i]).f1 < 1
      · simp only [if_pos g1] at st; exact fls (badj _) st
      simp only [if_neg g1] at st
      by_cases g2 : (ys[i]).f0 < 0
      · simp only [if_pos g2] at st; exact fls (badj _) st
      simp only [if_neg g2] at st
      by_cases g3 : (ys[i]).f1 > 2048
      · simp only [if_pos g3] at st; exact fls (badj _) st
      simp only [if_neg g3] at st
      rw [w64 (by omega) (by omega)] at st
      by_cases g4 : (ys[i]).f0 > 2048 - (ys[i]).f1
      · rw [decide_eq_true g4] at st; exact fls (badj _) st
      rw [decide_eq_false g4] at st
      have gd : goodR ys[i] := ⟨by omega, by omega, by omega, by omega⟩
      have inner : ∀ (d2 : Nat) (p : Int) (seen : List Bool), p + (d2 : Int) = (ys[i]).f0 + (ys[i]).f1 → 0 ≤ p → seen.length = 2048 → ∃ b, Ev (fun k => posthorseref08_Right.l1 k 2048 seen (i : Int) p v ys (ys[i]).f0 (ys[i]).f1) b ∧ (b = true → ∀ e ∈ ys.drop (i + 1), goodR e) := by
        intro d2
        induction d2 with
        | zero =>
          intro p seen hp h0 hs
          obtain ⟨b, hb, hg⟩ := ih (i + 1) seen (by omega) hs
          refine ⟨b, Ev.step (fun k => ?_) hb, hg⟩
          rw [posthorseref08_Right.l1, w64 (by omega) (by omega), if_neg (by omega), w64 (by omega) (by omega)]; rfl
        | succ d2 ih2 =>
          intro p seen hp h0 hs
          by_cases hb : rdOf false seen p = true
          · refine ⟨false, Ev.from 1 fun k => ?_, fun h => by cases h⟩
            rw [posthorseref08_Right.l1, w64 (by omega) (by omega), if_pos (by omega), if_pos (by omega), if_pos (by omega), if_pos hb]
          · obtain ⟨b, hb2, hg⟩ := ih2 (p + 1) (seen.set p.toNat true) (by omega) (by omega) (by rw [List.length_set]; exact hs)
            refine ⟨b, Ev.step (fun k => ?_) hb2, hg⟩
            rw [posthorseref08_Right.l1, w64 (n := (ys[i]).f0 + (ys[i]).f1) (by omega) (by omega), if_pos (by omega), if_pos (by omega), if_pos (by omega), if_neg hb, w64 (by omega) (by omega)]
      obtain ⟨b, hb, hg⟩ := inner (ys[i]).f1.toNat (ys[i]).f0 seen (by omega) (by omega) hs
      refine ⟨b, st b (Ev.step (fun k => by rw [posthorseref08_Right.j2, if_neg (by decide)]) hb), fun h e he => ?_⟩
      rw [List.drop_eq_getElem_cons hil] at he
      rcases List.mem_cons.1 he with rfl | he
      · exact gd
      · exact hg h e he
  obtain ⟨b, hb, hg⟩ := lp ys.length 0 (List.replicate 2048 false) (by omega) List.length_replicate
  rw [List.drop_zero] at hg
  refine ⟨b, Ev.step (fun k => ?_) hb, fun h => ⟨by omega, hg h⟩⟩
  rw [posthorseref08_Right.j0, if_neg (by decide), if_pos (by decide), if_pos (by decide)]; rfl
theorem sectors_ev (v : Int) (ys : List RX) (hl : ys.length ≤ 36) (hg : ∀ e ∈ ys, goodR e) : Ev (fun k => posthorseref08_Sectors.f k v ys) (secsR ys) := by
  unfold posthorseref08_Sectors.f
  have lp : ∀ (d i : Nat) (S : List Int), i + d = ys.length → S.length ≤ 2048 * i → Ev (fun k => posthorseref08_Sectors.l0 k S (i : Int) v ys) (S ++ secsR (ys.drop i)) := by
    intro d
    induction d with
    | zero =>
      intro i S hi hs
      rw [List.drop_eq_nil_of_le (by omega)]
      refine Ev.from 1 fun k => ?_
      rw [posthorseref08_Sectors.l0, if_neg (by omega)]; simp [secsR]
    | succ d ih =>
      intro i S hi hs
      have hil : i < ys.length := by omega
      obtain ⟨g1, g2, g3, g4⟩ := hg ys[i] (List.getElem_mem hil)
      have inner : ∀ (d2 j : Nat), j + d2 = (ys[i]).f1.toNat → Ev (fun k => posthorseref08_Sectors.l1 k (S ++ (List.range j).map fun (q : Nat) => (ys[i]).f0 + (q : Int)) (i : Int) (j : Int) v ys) (S ++ secsR (ys.drop i)) := by
        intro d2
        induction d2 with
        | zero =>
          intro j hj
          have h := ih (i + 1) (S ++ runX (ys[i]).f0 (ys[i]).f1) (by omega) (by rw [List.length_append, runX_len]; omega)
          rw [List.append_assoc] at h
          have e : secsR (ys.drop i) = runX (ys[i]).f0 (ys[i]).f1 ++ secsR (ys.drop (i + 1)) := by rw [List.drop_eq_getElem_cons hil]; rfl
          rw [e]
          refine Ev.step (fun k => ?_) h
          rw [posthorseref08_Sectors.l1, if_pos (by omega), if_pos (by omega), rdR ys i hil, if_neg (by omega), w64 (by omega) (by omega)]
          unfold runX
          rw [show j = (ys[i]).f1.toNat by omega]; rfl
        | succ d2 ih2 =>
          intro j hj
          have h := ih2 (j + 1) (by omega)
          refine Ev.step (fun k => ?_) h
          rw [posthorseref08_Sectors.l1, if_pos (by omega), if_pos (by omega), rdR ys i hil, if_pos (by omega), if_pos (by omega), if_pos (by rw [List.length_append, List.length_map, List.length_range]; omega), w64 (by omega) (by omega), w64 (by omega) (by omega), List.append_assoc]
          have e : ((List.range j).map fun (q : Nat) => (ys[i]).f0 + (q : Int)) ++ [(ys[i]).f0 + (j : Int)] = (List.range (j + 1)).map fun (q : Nat) => (ys[i]).f0 + (q : Int) := by rw [List.range_succ, List.map_append]; rfl
          rw [e]; rfl
      have h := inner (ys[i]).f1.toNat 0 (by omega)
      refine Ev.step (fun k => ?_) h
      rw [posthorseref08_Sectors.l0, if_pos (by omega)]; simp
  have := lp ys.length 0 [] (by omega) (by simp)
  rw [List.drop_zero, List.nil_append] at this
  exact this
theorem has_ev (S : List Int) (hl : S.length ≤ 1000000) (n : Int) : Ev (fun k => posthorseref08_Has.f k S n) (hasL S n 0) := by
  unfold posthorseref08_Has.f
  have lp : ∀ (d i : Nat), i + d = S.length → Ev (fun k => posthorseref08_Has.l0 k S n (i : Int)) (hasL (S.drop i) n (i : Int)) := by
    intro d
    induction d with
    | zero =>
      intro i hi
      rw [List.drop_eq_nil_of_le (by omega)]
      refine Ev.from 1 fun k => ?_
      rw [posthorseref08_Has.l0, if_neg (by omega)]; rfl
    | succ d ih =>
      intro i hi
      have hil : i < S.length := by omega
      have e : rd S (i : Int) = S[i] := by
        show S.getD (i : Int).toNat 0 = _
        rw [Int.toNat_natCast, List.getD_eq_getElem?_getD, List.getElem?_eq_getElem hil]; rfl
      rw [List.drop_eq_getElem_cons hil, hasL]
      by_cases c : S[i] = n
      · rw [if_pos c]
        refine Ev.from 1 fun k => ?_
        rw [posthorseref08_Has.l0, if_pos (by omega), if_pos (by omega), e, if_pos c]
      · rw [if_neg c]
        refine Ev.step (fun k => ?_) (ih (i + 1) (by omega))
        rw [posthorseref08_Has.l0, if_pos (by omega), if_pos (by omega), e, if_neg c, w64 (by omega) (by omega)]; rfl
  have := lp S.length 0 (by omega)
  rw [List.drop_zero] at this
  exact this

/-! ### both08 -/
abbrev LX := S41
def toX (e : LX) : EX := ⟨e.f0, e.f1⟩
def toR (e : LX) : RX := ⟨e.f0, e.f1⟩
theorem rdL (ys : List LX) (i : Nat) (h : i < ys.length) : rd_T41 ys (i : Int) = ys[i] := by
  unfold rd_T41
  rw [Int.toNat_natCast, List.getD_eq_getElem?_getD, List.getElem?_eq_getElem h]; rfl
theorem both_ev (v : Int) (l : List LX) : Ev (fun k => posthorselaw08_both.f k v l) (v, (l.take 40).map toX, v, (l.take 40).map toR) := by
  unfold posthorselaw08_both.f
  have lp : ∀ (d i : Nat), i + d = (l.take 40).length → Ev (fun k => posthorselaw08_both.l0 k l (i : Int) v ((l.take i).map toX) v ((l.take i).map toR)) (v, (l.take 40).map toX, v, (l.take 40).map toR) := by
    intro d
    induction d with
    | zero =>
      intro i hi
      rw [List.length_take] at hi
      refine Ev.from 1 fun k => ?_
      have e : l.take i = l.take 40 := by
        rcases Nat.lt_or_ge 40 l.length with h | h
        · rw [show i = 40 by omega]
        · rw [List.take_of_length_le (show l.length ≤ i by omega), List.take_of_length_le h]
      rw [posthorselaw08_both.l0, e]
      by_cases c : (i : Int) < (l.length : Int)
      · rw [if_pos c, if_neg (by omega)]
      · rw [if_neg c]
    | succ d ih =>
      intro i hi
      rw [List.length_take] at hi
      have hil : i < l.length := by omega
      have h := ih (i + 1) (by rw [List.length_take]; omega)
      refine Ev.step (f := fun k => (some (([(⟨(rd_T41 l (i : Int)).f0, (rd_T41 l (i : Int)).f1⟩ : EX)] : List EX) : List EX)).bind fun y162 => (if ((l.take i).map toX).length + y162.length < 8796093022208 then ((some (([(⟨(rd_T41 l (i : Int)).f0, (rd_T41 l (i : Int)).f1⟩ : RX)] : List RX) : List RX)).bind fun y169 => (if ((l.take i).map toR).length + y169.length < 8796093022208 then (posthorselaw08_both.l0 k l (wrap64 ((i : Int) + 1)) v ((l.take i).map toX ++ y162) v ((l.take i).map toR ++ y169)) else (none))) else (none))) (fun k => by rw [posthorselaw08_both.l0, if_pos (by omega), if_pos (by omega), if_pos (by omega)]) ?_
      simp only [Option.bind_some]
      have e1 : ((l.take i).map toX).length = i := by rw [List.length_map, List.length_take]; omega
      have e2 : ((l.take i).map toR).length = i := by rw [List.length_map, List.length_take]; omega
      have e3 : l.take (i + 1) = l.take i ++ [l[i]] := List.take_succ_eq_append_getElem hil
      rw [e1, e2, rdL l i hil, w64 (by omega) (by omega)]
      simp only [List.length_cons, List.length_nil, if_pos (show i + (0 + 1) < 8796093022208 by omega)]
      rw [e3, List.map_append, List.map_append] at h
      exact h
  exact lp (l.take 40).length 0 (by omega)
theorem secs_same (l : List LX) : secs (l.map toX) = secsR (l.map toR) := by
  unfold secs secsR
  rw [List.flatMap_map, List.flatMap_map]; rfl

/-! ### InodeMaps -/
theorem InodeMaps : InodeMaps.Pure := by
  intro l0 a1 a2 _ h1 h2
  have b1 := i64b h1
  have b2 := i64b h2
  refine Ev.rounds (g := fun k => posthorselaw08_InodeMaps.f k l0 a1 a2) ?_
  unfold posthorselaw08_InodeMaps.f
  refine Ev.bind speaks08_ev ?_
  simp only [if_true]
  refine Ev.bind (both_ev 0 l0) ?_
  simp only [and_self, if_true]
  generalize hm : l0.take 40 = m
  have hml : m.length ≤ 40 := by rw [← hm, List.length_take]; omega
  obtain ⟨b, hb, hg⟩ := refRight_ev 0 (m.map toR) (by rw [List.length_map]; omega)
  refine Ev.bind hb ?_
  cases b with
  | false => simp only [Bool.false_eq_true, if_false]; exact Ev.now _
  | true =>
    simp only [if_true]
    obtain ⟨hl, hgood⟩ := hg rfl
    rw [List.length_map] at hl
    have hok : ∀ e ∈ m.map toX, okX e := by
      intro e he
      obtain ⟨x, hx, rfl⟩ := List.mem_map.1 he
      obtain ⟨g1, g2, g3, g4⟩ := hgood (toR x) (List.mem_map.2 ⟨x, hx, rfl⟩)
      have e0 : (toX x).f0 = (toR x).f0 := rfl
      have e1 : (toX x).f1 = (toR x).f1 := rfl
      exact ⟨by omega, by omega, by omega, by omega⟩
    have hxl : (m.map toX).length ≤ 36 := by rw [List.length_map]; exact hl
    have hsl : (secs (m.map toX)).length ≤ 36 * 2048 := by
      have : ∀ (n : Nat) (q : List LX), q.length ≤ n → (∀ e ∈ q.map toR, goodR e) → (secs (q.map toX)).length ≤ n * 2048 := by
        intro n
        induction n with
        | zero =>
          intro q hq _
          obtain rfl : q = [] := List.eq_nil_of_length_eq_zero (by omega)
          simp [secs]
        | succ n ih =>
          intro q hq hgq
          cases q with
          | nil => simp [secs]
          | cons x q =>
            have h := ih q (by simpa using hq) (fun e he => hgq e (by simp only [List.map_cons, List.mem_cons]; exact .inr he))
            obtain ⟨g1, g2, g3, g4⟩ := hgq (toR x) (by simp)
            have e1 : (toX x).f1 = (toR x).f1 := rfl
            rw [List.map_cons, secs_cons, List.length_append, runX_len]
            omega
      exact this 36 m hl hgood
    unfold mapsTail
    refine Ev.bind (sectors_ev 0 (m.map toR) (by rw [List.length_map]; exact hl) hgood) ?_
    rw [← secs_same]
    refine Ev.bind (map_ev 0 (m.map toX) (by omega) a1) ?_
    refine Ev.bind (block_ev 0 (m.map toX) (by omega) a2) ?_
    refine Ev.bind (has_ev (secs (m.map toX)) (by omega) a2) ?_
    refine Ev.bind (size_ev 0 (m.map toX) (by omega) hok) ?_
    rw [block_has (m.map toX) a2 0 hok b2.1 b2.2 (by omega) (by omega)]
    generalize hS : secs (m.map toX) = S at *
    have hrd : ∀ b : Int, rd S b = S.getD b.toNat 0 := fun _ => rfl
    refine Ev.from 0 fun k => ?_
    rw [if_pos]
    refine ⟨rfl, ?_, ?_, ?_, ?_⟩
    · by_cases c : a1 < 0
      · rw [if_pos c, decide_eq_false (by omega)]
      · rw [if_neg c, mapS_secs _ _ hok (by omega) b1.2, hS]
        by_cases c2 : a1 < (S.length : Int)
        · rw [if_pos c2, decide_eq_true (by omega)]
        · rw [if_neg c2, decide_eq_false (by omega)]
    · by_cases c : 0 ≤ hasL S a2 0
      · rw [if_pos c, decide_eq_true c]
      · rw [if_neg c, decide_eq_false c]
    · by_cases c : a1 < 0
      · rw [if_pos c]; rfl
      · rw [if_neg c, mapS_secs _ _ hok (by omega) b1.2, hS]
        by_cases c2 : a1 < (S.length : Int)
        · rw [if_pos c2]; rfl
        · rw [if_neg c2]; rfl
    · by_cases c : 0 ≤ hasL S a2 0
      · rw [if_pos c]; rfl
      · rw [if_neg c]; rfl

end Go.Proofs.Ytmncfcebjohloaa.Pure
