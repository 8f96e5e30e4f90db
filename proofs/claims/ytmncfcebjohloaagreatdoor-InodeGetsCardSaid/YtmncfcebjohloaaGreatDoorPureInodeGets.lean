/- InodeGets: the pure law; for every input, no condition. -/
import Derived.Test.YtmncfcebjohloaaGreatDoorVInodeGetsx31
import Derived.OpenShut
import Derived.Lib.IndexEntry
namespace Go.Proofs.YtmncfcebjohloaaGreatDoor.Pure
open Go Go.RowKit Go.Proofs.YtmncfcebjohloaaGreatDoor.VInodeGets Go.Proofs.YtmncfcebjohloaaGreatDoorW.PrintWords Go.Proofs.YtmncfcebjohloaaGreatDoorW.PrintLast
set_option linter.unusedSimpArgs false
set_option linter.unusedVariables false

def InodeGets.Pure : Prop := ∀ (a0 : ByteArray) (a1 : Int), a0.size ≤ 140737488351232 → (Lit.int .i64 a1).wf = true → ∃ k, posthorselaw08_InodeGets.f k a0 a1 = some true
/-! ### base -/
theorem dl (s : ByteArray) : s.toList = s.data.toList := Lib.toList_data s
theorem deq {a b : ByteArray} : a = b ↔ a.data.toList = b.data.toList := ⟨fun h => by rw [h], fun h => Go.WideShapes.bytes_inj h⟩
theorem dapp (a b : ByteArray) : (a ++ b).data.toList = a.data.toList ++ b.data.toList := by simp
theorem dlen (a : ByteArray) : a.data.toList.length = a.size := by rw [Array.length_toList]; rfl
theorem w64 {n : Int} (h0 : -9223372036854775808 ≤ n) (h1 : n ≤ 9223372036854775807) : wrap64 n = n := by unfold wrap64; omega
theorem i64b {n : Int} (h : (Lit.int .i64 n).wf = true) : -9223372036854775808 ≤ n ∧ n ≤ 9223372036854775807 := bounds_i64 h
theorem u8w (n : Int) : IntKind.u8.wrap n = n % 256 := IntKind.wrap_u8 n
theorem Ev.all {α : Type} {g : Nat → Option α} {r : α} (h : ∀ k, g k = some r) : Ev g r := ⟨0, fun k _ => h k⟩
theorem Ev.bindS {α β : Type} {g : Nat → Option α} {f : Nat → α → Option β} {a : α} {r : β} (h : Ev g a) (k : Ev (fun n => f n a) r) : Ev (fun n => (g n).bind (f n)) r := Ev.bind h k
theorem Ev.from {α : Type} {g : Nat → Option α} {r : α} (j : Nat) (h : ∀ k, g (k + j) = some r) : Ev g r := ⟨j, fun k hk => by have := h (k - j); rwa [Nat.sub_add_cancel hk] at this⟩
theorem Ev.to {α : Type} {g : Nat → Option α} {r : α} (h : Ev g r) : ∃ k, g k = some r := h.rounds
theorem Ev.at_ {α : Type} {g : Nat → Option α} {r : α} (hg : ∀ k, LeO (g k) (g (k + 1))) {j : Nat} (h : g j = some r) : Ev g r := Ev.of hg h

/-! ### speaks08 -/
theorem speaks08_ev : Ev (fun k => posthorselaw08_speaks.f k) true := Ev.at_ (fun k => posthorselaw08_speaks.mono k) (j := 20) (by decide +kernel)

/-! ### ext08 -/
/-- The sectors of an extent. -/
def runX (a n : Int) : List Int := (List.range n.toNat).map fun (k : Nat) => a + (k : Int)
theorem runX_len (a n : Int) : (runX a n).length = n.toNat := by simp [runX]
theorem runX_get (a n : Int) (j : Nat) (h : j < n.toNat) : (runX a n).getD j 0 = a + (j : Int) := by
  unfold runX
  rw [List.getD_eq_getElem?_getD, List.getElem?_map, List.getElem?_range h]; rfl
abbrev EX := S51
/-- The sectors of all. -/
def secs (xs : List EX) : List Int := xs.flatMap fun e => runX e.f0 e.f1
theorem secs_cons (e : EX) (xs : List EX) : secs (e :: xs) = runX e.f0 e.f1 ++ secs xs := rfl
theorem secs_app (xs ys : List EX) : secs (xs ++ ys) = secs xs ++ secs ys := by unfold secs; rw [List.flatMap_append]
/-- An extent within bounds. -/
def okX (e : EX) : Prop := 0 ≤ e.f0 ∧ e.f0 ≤ 1000000 ∧ 1 ≤ e.f1 ∧ e.f1 ≤ 1000000
/-- What Map answers. -/
def mapS : List EX → Int → Int × Bool
  | [], _ => (0, false)
  | e :: xs, b => if b < e.f1 then (wrap64 (e.f0 + b), true) else mapS xs (wrap64 (b - e.f1))
theorem mapS_secs : ∀ (xs : List EX) (b : Int), (∀ e ∈ xs, okX e) → 0 ≤ b → b ≤ 9223372036854775807 → mapS xs b = if b < ((secs xs).length : Int) then ((secs xs).getD b.toNat 0, true) else (0, false)
  | [], b, _, h0, _ => by rw [mapS, if_neg (by simp [secs]; omega)]
  | e :: xs, b, hx, h0, h1 => by
    obtain ⟨e0, e1, e2, e3⟩ := hx e (by simp)
    have hl : (secs (e :: xs)).length = e.f1.toNat + (secs xs).length := by rw [secs_cons, List.length_append, runX_len]
    rw [mapS]
    by_cases c : b < e.f1
    · rw [if_pos c, if_pos (by omega), w64 (by omega) (by omega)]
      congr 1
      rw [secs_cons, List.getD_eq_getElem?_getD, List.getElem?_append_left (by rw [runX_len]; omega), ← List.getD_eq_getElem?_getD, runX_get _ _ _ (by omega)]
      omega
    · rw [if_neg c, w64 (by omega) (by omega), mapS_secs xs (b - e.f1) (fun y hy => hx y (by simp [hy])) (by omega) (by omega)]
      by_cases c2 : b - e.f1 < ((secs xs).length : Int)
      · rw [if_pos c2, if_pos (by omega)]
        congr 1
        rw [secs_cons, List.getD_eq_getElem?_getD, List.getD_eq_getElem?_getD, List.getElem?_append_right (by rw [runX_len]; omega), runX_len]
        congr 2
        omega
      · rw [if_neg c2, if_neg (by omega)]
theorem rdX (xs : List EX) (i : Nat) (h : i < xs.length) : rd_T51 xs (i : Int) = xs[i] := by
  unfold rd_T51
  rw [Int.toNat_natCast, List.getD_eq_getElem?_getD, List.getElem?_eq_getElem h]; rfl
theorem map_ev (v : Int) (xs : List EX) (hl : xs.length ≤ 1000000) (b : Int) : Ev (fun k => inode_Map.f k v xs b) (if b < 0 then (0, false) else mapS xs b) := by
  unfold inode_Map.f
  by_cases h0 : b < 0
  · simp only [if_pos h0]; exact Ev.now _
  · simp only [if_neg h0]
    have lp : ∀ (d i : Nat) (b : Int), i + d = xs.length → Ev (fun k => inode_Map.l0 k b xs (xs.length : Int) (i : Int)) (mapS (xs.drop i) b) := by
      intro d
      induction d with
      | zero =>
        intro i b hi
        rw [List.drop_eq_nil_of_le (by omega)]
        refine Ev.from 1 fun k => ?_
        rw [inode_Map.l0, if_neg (by omega)]; rfl
      | succ d ih =>
        intro i b hi
        have hil : i < xs.length := by omega
        rw [List.drop_eq_getElem_cons hil, mapS]
        by_cases c : b < (xs[i]).f1
        · rw [if_pos c]
          refine Ev.from 1 fun k => ?_
          rw [inode_Map.l0, if_pos (by omega), if_pos (by omega), if_pos (by omega), rdX xs i hil, if_pos c]
        · rw [if_neg c]
          refine Ev.step (fun k => ?_) (ih (i + 1) _ (by omega))
          rw [inode_Map.l0, if_pos (by omega), if_pos (by omega), if_pos (by omega), rdX xs i hil, if_neg c, w64 (n := (i : Int) + 1) (by omega) (by omega)]
          rfl
    have := lp xs.length 0 b (by omega)
    rw [List.drop_zero] at this
    exact this
/-- What Block answers. -/
def blockS : List EX → Int → Int → Int × Bool
  | [], _, _ => (0, false)
  | e :: xs, s, n => if s ≥ e.f0 then (if wrap64 (s - e.f0) < e.f1 then (wrap64 (wrap64 (n + s) - e.f0), true) else blockS xs s (wrap64 (n + e.f1))) else blockS xs s (wrap64 (n + e.f1))
theorem block_ev (v : Int) (xs : List EX) (hl : xs.length ≤ 1000000) (s : Int) : Ev (fun k => inode_Block.f k v xs s) (blockS xs s 0) := by
  unfold inode_Block.f
  have lp : ∀ (d i : Nat) (n : Int), i + d = xs.length → Ev (fun k => inode_Block.l0 k s n xs (xs.length : Int) (i : Int)) (blockS (xs.drop i) s n) := by
    intro d
    induction d with
    | zero =>
      intro i n hi
      rw [List.drop_eq_nil_of_le (by omega)]
      refine Ev.from 1 fun k => ?_
      rw [inode_Block.l0, if_neg (by omega)]; rfl
    | succ d ih =>
      intro i n hi
      have hil : i < xs.length := by omega
      rw [List.drop_eq_getElem_cons hil, blockS]
      have go := ih (i + 1) (wrap64 (n + (xs[i]).f1)) (by omega)
      by_cases c : s ≥ (xs[i]).f0
      · rw [if_pos c]
        by_cases c2 : wrap64 (s - (xs[i]).f0) < (xs[i]).f1
        · rw [if_pos c2]
          refine Ev.from 1 fun k => ?_
          rw [inode_Block.l0, if_pos (by omega), if_pos (by omega), if_pos (by omega), rdX xs i hil, if_pos c, if_pos c2]
        · rw [if_neg c2]
          refine Ev.step (fun k => ?_) go
          rw [inode_Block.l0, if_pos (by omega), if_pos (by omega), if_pos (by omega), rdX xs i hil, if_pos c, if_neg c2, w64 (n := (i : Int) + 1) (by omega) (by omega)]
          rfl
      · rw [if_neg c]
        refine Ev.step (fun k => ?_) go
        rw [inode_Block.l0, if_pos (by omega), if_pos (by omega), if_pos (by omega), rdX xs i hil, if_neg c, w64 (n := (i : Int) + 1) (by omega) (by omega)]
        rfl
  have := lp xs.length 0 0 (by omega)
  rw [List.drop_zero] at this
  exact this
/-- A number's place in a list; -1. -/
def hasL : List Int → Int → Int → Int
  | [], _, _ => -1
  | y :: S, n, i => if y = n then i else hasL S n (i + 1)
theorem hasL_run (S : List Int) (s : Int) : ∀ (m : Nat) (a i : Int), hasL (((List.range m).map fun (k : Nat) => a + (k : Int)) ++ S) s i = if a ≤ s ∧ s < a + (m : Int) then i + (s - a) else hasL S s (i + (m : Int))
  | 0, a, i => by
    rw [if_neg (by omega)]
    simp
  | m + 1, a, i => by
    have e : ((List.range (m + 1)).map fun (k : Nat) => a + (k : Int)) ++ S = a :: (((List.range m).map fun (k : Nat) => (a + 1) + (k : Int)) ++ S) := by
      rw [List.range_succ_eq_map, List.map_cons, List.map_map]
      have : ((fun (k : Nat) => a + (k : Int)) ∘ Nat.succ) = fun (k : Nat) => (a + 1) + (k : Int) := by
        funext k
        show a + ((k + 1 : Nat) : Int) = _
        omega
      rw [this]
      show (a + ((0 : Nat) : Int)) :: _ = _
      rw [show a + ((0 : Nat) : Int) = a by omega]; rfl
    rw [e, hasL, hasL_run S s m (a + 1) (i + 1)]
    by_cases c : a = s
    · rw [if_pos c, if_pos (by omega)]; omega
    · rw [if_neg c]
      by_cases c2 : a + 1 ≤ s ∧ s < a + 1 + (m : Int)
      · rw [if_pos c2, if_pos (by omega)]; omega
      · rw [if_neg c2, if_neg (by omega)]
        congr 1; omega
theorem block_has : ∀ (xs : List EX) (s n : Int), (∀ e ∈ xs, okX e) → -9223372036854775808 ≤ s → s ≤ 9223372036854775807 → 0 ≤ n → n + (xs.length : Int) * 1000000 ≤ 1000000000000 → blockS xs s n = if 0 ≤ hasL (secs xs) s n then (hasL (secs xs) s n, true) else (0, false)
  | [], s, n, _, _, _, _, _ => by rw [blockS, secs, List.flatMap_nil, hasL, if_neg (by decide)]
  | e :: xs, s, n, hx, hs0, hs1, hn, hm => by
    obtain ⟨e0, e1, e2, e3⟩ := hx e (by simp)
    have hm' : n + ((xs.length : Int) + 1) * 1000000 ≤ 1000000000000 := by
      have : ((e :: xs).length : Int) = (xs.length : Int) + 1 := by simp
      rwa [this] at hm
    have ih := block_has xs s (n + e.f1) (fun y hy => hx y (by simp [hy])) hs0 hs1 (by omega) (by omega)
    rw [blockS, secs_cons]
    unfold runX
    rw [hasL_run (secs xs) s e.f1.toNat e.f0 n, show ((e.f1.toNat : Nat) : Int) = e.f1 by omega, w64 (n := n + e.f1) (by omega) (by omega)]
    by_cases c : s ≥ e.f0
    · rw [if_pos c, w64 (n := s - e.f0) (by omega) (by omega)]
      by_cases c2 : s - e.f0 < e.f1
      · rw [if_pos c2, if_pos (show e.f0 ≤ s ∧ s < e.f0 + e.f1 by omega), if_pos (by omega), w64 (n := n + s) (by omega) (by omega), w64 (by omega) (by omega)]
        congr 1; omega
      · rw [if_neg c2, if_neg (show ¬ (e.f0 ≤ s ∧ s < e.f0 + e.f1) by omega)]; exact ih
    · rw [if_neg c, if_neg (show ¬ (e.f0 ≤ s ∧ s < e.f0 + e.f1) by omega)]; exact ih
theorem size_ev (v : Int) (xs : List EX) (hl : xs.length ≤ 1000) (hx : ∀ e ∈ xs, okX e) : Ev (fun k => inode_Size.f k v xs) ((secs xs).length : Int) := by
  unfold inode_Size.f
  have lp : ∀ (d i : Nat) (n : Int), i + d = xs.length → 0 ≤ n → n ≤ (i : Int) * 1000000 → Ev (fun k => inode_Size.l0 k n xs (xs.length : Int) (i : Int)) (n + ((secs (xs.drop i)).length : Int)) := by
    intro d
    induction d with
    | zero =>
      intro i n hi _ _
      rw [List.drop_eq_nil_of_le (by omega)]
      refine Ev.from 1 fun k => ?_
      rw [inode_Size.l0, if_neg (by omega)]; simp [secs]
    | succ d ih =>
      intro i n hi h0 h1
      have hil : i < xs.length := by omega
      obtain ⟨e0, e1, e2, e3⟩ := hx xs[i] (List.getElem_mem hil)
      have go := ih (i + 1) (n + (xs[i]).f1) (by omega) (by omega) (by omega)
      rw [List.drop_eq_getElem_cons hil, secs_cons, List.length_append, runX_len]
      have e : n + ((((xs[i]).f1.toNat + (secs (xs.drop (i + 1))).length : Nat)) : Int) = n + (xs[i]).f1 + ((secs (xs.drop (i + 1))).length : Int) := by omega
      rw [e]
      refine Ev.step (fun k => ?_) go
      rw [inode_Size.l0, if_pos (by omega), if_pos (by omega), if_pos (by omega), rdX xs i hil, w64 (n := n + (xs[i]).f1) (by omega) (by omega), w64 (n := (i : Int) + 1) (by omega) (by omega)]
      rfl
  have := lp xs.length 0 0 (by omega) (by omega) (by omega)
  rw [List.drop_zero, Int.zero_add] at this
  exact this

/-! ### ref08 -/
abbrev RX := S56
def secsR (ys : List RX) : List Int := ys.flatMap fun e => runX e.f0 e.f1
theorem rdR (ys : List RX) (i : Nat) (h : i < ys.length) : rd_T56 ys (i : Int) = ys[i] := by
  unfold rd_T56
  rw [Int.toNat_natCast, List.getD_eq_getElem?_getD, List.getElem?_eq_getElem h]; rfl
/-- An extent that may be on a device of 2048 sectors. -/
def goodR (e : RX) : Prop := 1 ≤ e.f1 ∧ 0 ≤ e.f0 ∧ e.f1 ≤ 2048 ∧ e.f0 ≤ 2048 - e.f1
theorem refRight_ev (v : Int) (ys : List RX) (hl : ys.length ≤ 1000) : ∃ b, Ev (fun k => posthorseref08_Right.f k v ys 2048) b ∧ (b = true → ys.length ≤ 36 ∧ ∀ e ∈ ys, goodR e) := by
  have bad : Ev (fun k => posthorseref08_Right.j0 k 2048 true v ys) false := Ev.from 1 fun k => by rw [posthorseref08_Right.j0, if_pos rfl]
  unfold posthorseref08_Right.f
  simp only [if_neg (show ¬ (2048 : Int) < 1 by decide), if_neg (show ¬ (2048 : Int) > 2048 by decide)]
  by_cases h1 : v < 0
  · simp only [if_pos h1]; exact ⟨false, bad, fun h => by cases h⟩
  by_cases h2 : v ≥ 281474976710656
  · simp only [if_neg h1, if_pos h2]; exact ⟨false, bad, fun h => by cases h⟩
  simp only [if_neg h1, if_neg h2]
  by_cases h3 : (ys.length : Int) > 36
  · rw [decide_eq_true h3]; exact ⟨false, bad, fun h => by cases h⟩
  rw [decide_eq_false h3]
  have lp : ∀ (d i : Nat) (seen : List Bool), i + d = ys.length → seen.length = 2048 → ∃ b, Ev (fun k => posthorseref08_Right.l0 k 2048 seen (i : Int) v ys) b ∧ (b = true → ∀ e ∈ ys.drop i, goodR e) := by
    intro d
    induction d with
    | zero =>
      intro i seen hi hs
      refine ⟨true, Ev.from 1 fun k => by rw [posthorseref08_Right.l0, if_neg (by omega)], fun _ e he => ?_⟩
      rw [List.drop_eq_nil_of_le (by omega)] at he
      cases he
    | succ d ih =>
      intro i seen hi hs
      have hil : i < ys.length := by omega
      have badj : ∀ x : RX, Ev (fun k => posthorseref08_Right.j2 k 2048 seen (i : Int) true v ys x.f0 x.f1) false := fun x => Ev.from 1 fun k => by rw [posthorseref08_Right.j2, if_pos rfl]
      have st : ∀ b, Ev (fun k => if (ys[i]).f1 < 1 then (posthorseref08_Right.j2 k 2048 seen (i : Int) true v ys (ys[i]).f0 (ys[i]).f1) else (if (ys[i]).f0 < 0 then (posthorseref08_Right.j2 k 2048 seen (i : Int) true v ys (ys[i]).f0 (ys[i]).f1) else (if (ys[i]).f1 > 2048 then (posthorseref08_Right.j2 k 2048 seen (i : Int) true v ys (ys[i]).f0 (ys[i]).f1) else (posthorseref08_Right.j2 k 2048 seen (i : Int) (decide ((ys[i]).f0 > wrap64 (2048 - (ys[i]).f1))) v ys (ys[i]).f0 (ys[i]).f1)))) b → Ev (fun k => posthorseref08_Right.l0 k 2048 seen (i : Int) v ys) b := fun b h => by
        refine Ev.step (fun k => ?_) h
        rw [posthorseref08_Right.l0, if_pos (by omega), if_pos (by omega), rdR ys i hil]
      have fls : ∀ {g : Nat → Option Bool}, Ev g false → (∀ b, Ev g b → Ev (fun k => posthorseref08_Right.l0 k 2048 seen (i : Int) v ys) b) → ∃ b, Ev (fun k => posthorseref08_Right.l0 k 2048 seen (i : Int) v ys) b ∧ (b = true → ∀ e ∈ ys.drop i, goodR e) := fun h hg => ⟨false, hg _ h, fun h => by cases h⟩
      by_cases g1 : (ys[i]).f1 < 1
      · simp only [if_pos g1] at st; exact fls (badj _) st
      simp only [if_neg g1] at st
      by_cases g2 : (ys[i]).f0 < 0
      · simp only [if_pos g2] at st; exact fls (badj _) st
      simp only [if_neg g2] at st
      by_cases g3 : (ys[i]).f1 > 2048
      · simp only [if_pos g3] at st; exact fls (badj _) st
      simp only [if_neg g3] at st
      rw [w64 (by omega) (by omega)] at st
      by_cases g4 : (ys[i]).f0 > 2048 - (ys[i]).f1
      · rw [decide_eq_true g4] at st; exact fls (badj _) st
      rw [decide_eq_false g4] at st
      have gd : goodR ys[i] := ⟨by omega, by omega, by omega, by omega⟩
      have inner : ∀ (d2 : Nat) (p : Int) (seen : List Bool), p + (d2 : Int) = (ys[i]).f0 + (ys[i]).f1 → 0 ≤ p → seen.length = 2048 → ∃ b, Ev (fun k => posthorseref08_Right.l1 k 2048 seen (i : Int) p v ys (ys[i]).f0 (ys[i]).f1) b ∧ (b = true → ∀ e ∈ ys.drop (i + 1), goodR e) := by
        intro d2
        induction d2 with
        | zero =>
          intro p seen hp h0 hs
          obtain ⟨b, hb, hg⟩ := ih (i + 1) seen (by omega) hs
          refine ⟨b, Ev.step (fun k => ?_) hb, hg⟩
          rw [posthorseref08_Right.l1, w64 (by omega) (by omega), if_neg (by omega), w64 (by omega) (by omega)]; rfl
        | succ d2 ih2 =>
          intro p seen hp h0 hs
          by_cases hb : rdOf false seen p = true
          · refine ⟨false, Ev.from 1 fun k => ?_, fun h => by cases h⟩
            rw [posthorseref08_Right.l1, w64 (by omega) (by omega), if_pos (by omega), if_pos (by omega), if_pos (by omega), if_pos hb]
          · obtain ⟨b, hb2, hg⟩ := ih2 (p + 1) (seen.set p.toNat true) (by omega) (by omega) (by rw [List.length_set]; exact hs)
            refine ⟨b, Ev.step (fun k => ?_) hb2, hg⟩
            rw [posthorseref08_Right.l1, w64 (n := (ys[i]).f0 + (ys[i]).f1) (by omega) (by omega), if_pos (by omega), if_pos (by omega), if_pos (by omega), if_neg hb, w64 (by omega) (by omega)]
      obtain ⟨b, hb, hg⟩ := inner (ys[i]).f1.toNat (ys[i]).f0 seen (by omega) (by omega) hs
      refine ⟨b, st b (Ev.step (fun k => by rw [posthorseref08_Right.j2, if_neg (by decide)]) hb), fun h e he => ?_⟩
      rw [List.drop_eq_getElem_cons hil] at he
      rcases List.mem_cons.1 he with rfl | he
      · exact gd
      · exact hg h e he
  obtain ⟨b, hb, hg⟩ := lp ys.length 0 (List.replicate 2048 false) (by omega) List.length_replicate
  rw [List.drop_zero] at hg
  refine ⟨b, Ev.step (fun k => ?_) hb, fun h => ⟨by omega, hg h⟩⟩
  rw [posthorseref08_Right.j0, if_neg (by decide), if_pos (by decide), if_pos (by decide)]; rfl
/-! ### grow08 -/
theorem runX_add (a m n : Int) (hm : 0 ≤ m) (hn : 0 ≤ n) : runX a (m + n) = runX a m ++ runX (a + m) n := by
  unfold runX
  rw [show (m + n).toNat = m.toNat + n.toNat by omega, List.range_add, List.map_append, List.map_map]
  congr 1
  apply List.map_congr_left
  intro k _
  show a + ((m.toNat + k : Nat) : Int) = a + m + (k : Int)
  omega
/-- An extent within smaller bounds. -/
def okB (B : Int) (e : EX) : Prop := 0 ≤ e.f0 ∧ e.f0 ≤ 1023 ∧ 1 ≤ e.f1 ∧ e.f1 ≤ B
theorem okB_X {B : Int} {e : EX} (h : okB B e) (hB : B ≤ 100000) : okX e := ⟨h.1, by have := h.2.1; omega, h.2.2.1, by have := h.2.2.2; omega⟩
theorem any_some (a b : Int) : ∀ xs : List EX, ∃ m, anyMeets a b xs = some m
  | [] => ⟨false, rfl⟩
  | o :: xs => by
    have : ∃ t, inode_Extent_meets.f a b o.f0 o.f1 = some t := by
      unfold inode_Extent_meets.f
      split
      · exact ⟨_, rfl⟩
      · exact ⟨_, rfl⟩
    obtain ⟨t, ht⟩ := this
    obtain ⟨m, hm⟩ := any_some a b xs
    cases t with
    | true => exact ⟨true, by rw [anyMeets, ht]; rfl⟩
    | false => exact ⟨m, by rw [anyMeets, ht]; exact hm⟩
/-- Grow, at an extent that may be there: an error, or that behind. -/
theorem grow_ev (v : Int) (xs : List EX) (a b B : Int) (hB0 : 0 ≤ B) (hB : B ≤ 10000) (hl : xs.length ≤ 36) (hx : ∀ e ∈ xs, okB B e) (ha : 0 ≤ a ∧ a ≤ 1023) (hb : 1 ≤ b ∧ b ≤ 16) :
    ∃ g : Int × List EX × Option Int, Ev (fun k => inode_Grow.f k v xs a b) g ∧ (g.2.2 = none → secs g.2.1 = secs xs ++ runX a b ∧ g.2.1.length ≤ 36 ∧ ∀ e ∈ g.2.1, okB (B + 16) e) := by
  have hth : inode_Extent_there.f a b 2048 = some true := by
    unfold inode_Extent_there.f
    rw [if_pos (by omega), if_pos (by omega), if_pos (by omega), w64 (by omega) (by omega), decide_eq_true (by omega)]
  obtain ⟨m, hm⟩ := any_some a b xs
  have hme : inode_Inode_meets.f v xs a b = some m := by unfold inode_Inode_meets.f; rw [if_pos (by omega)]; exact hm
  have start : ∀ g, Ev (fun k => inode_Grow.j0 k m v xs a b) g → Ev (fun k => inode_Grow.f k v xs a b) g := fun g h => by
    unfold inode_Grow.f
    rw [hth]
    simp only [Option.bind_some, if_true]
    rw [hme]
    exact h
  cases m with
  | true => exact ⟨(0, [], some 1), start _ (Ev.from 1 fun k => by rw [inode_Grow.j0, if_pos rfl]), fun h => by cases h⟩
  | false =>
    have hcl : inode_Extent.f xs = some xs := by unfold inode_Extent.f; rw [if_pos (by omega)]
    have app : ∀ q, q = false → ∃ g : Int × List EX × Option Int, Ev (fun k => inode_Grow.j1 k xs (xs.length : Int) q v xs a b) g ∧ (g.2.2 = none → secs g.2.1 = secs xs ++ runX a b ∧ g.2.1.length ≤ 36 ∧ ∀ e ∈ g.2.1, okB (B + 16) e) := fun q hq => by
      subst hq
      by_cases c : (xs.length : Int) ≥ 36
      · exact ⟨(0, [], some 19), Ev.from 1 fun k => by rw [inode_Grow.j1, if_neg (by decide), if_pos c], fun h => by cases h⟩
      · refine ⟨(wrap64 (v + 1), xs ++ [⟨a, b⟩], none), Ev.from 1 fun k => ?_, fun _ => ⟨?_, by rw [List.length_append]; simp; omega, fun e he => ?_⟩⟩
        · rw [inode_Grow.j1, if_neg (by decide), if_neg c, if_pos (by omega)]; rfl
        · rw [secs_app]
          congr 1
          show runX a b ++ [] = _
          rw [List.append_nil]
        · rcases List.mem_append.1 he with h | h
          · obtain ⟨h1, h2, h3, h4⟩ := hx e h
            exact ⟨h1, h2, h3, by omega⟩
          · rw [List.mem_singleton] at h
            subst h
            exact ⟨ha.1, ha.2, hb.1, by show b ≤ B + 16; omega⟩
    have fin : ∀ q, (q = false → ∃ g : Int × List EX × Option Int, Ev (fun k => inode_Grow.j1 k xs (xs.length : Int) q v xs a b) g ∧ (g.2.2 = none → secs g.2.1 = secs xs ++ runX a b ∧ g.2.1.length ≤ 36 ∧ ∀ e ∈ g.2.1, okB (B + 16) e)) := app
    rcases List.eq_nil_or_concat xs with rfl | ⟨init, last, rfl⟩
    · obtain ⟨g, hg, hp⟩ := app false rfl
      refine ⟨g, start _ (Ev.step (fun k => ?_) hg), hp⟩
      rw [inode_Grow.j0, if_neg (by decide), hcl]
      simp only [Option.bind_some]
      rw [if_neg (by decide)]
    · rw [List.concat_eq_append] at *
      have hlen : (init ++ [last]).length = init.length + 1 := by simp
      obtain ⟨o1, o2, o3, o4⟩ := hx last (by simp)
      have hrd : rd_T51 (init ++ [last]) (init.length : Int) = last := by
        rw [rdX _ _ (by rw [hlen]; omega)]; simp
      have hq : ∀ g, Ev (fun k => inode_Grow.j1 k (init ++ [last]) ((init ++ [last]).length : Int) ((last.f0 + last.f1) == a) v (init ++ [last]) a b) g → Ev (fun k => inode_Grow.f k v (init ++ [last]) a b) g := fun g h => by
        refine start g (Ev.step (fun k => ?_) h)
        rw [inode_Grow.j0, if_neg (by decide), hcl]
        simp only [Option.bind_some]
        rw [if_pos (by rw [hlen]; omega), show wrap64 (((init ++ [last]).length : Int) - 1) = (init.length : Int) by rw [hlen]; rw [w64 (by omega) (by omega)]; omega, if_pos (by omega), if_pos (by rw [hlen]; omega), hrd, w64 (by omega) (by omega)]
      by_cases c : last.f0 + last.f1 = a
      · refine ⟨(wrap64 (v + 1), init ++ [⟨last.f0, last.f1 + b⟩], none), hq _ (Ev.from 1 fun k => ?_), fun _ => ⟨?_, ?_, fun e he => ?_⟩⟩
        · rw [beq_iff_eq.2 c, inode_Grow.j1, if_pos rfl, show wrap64 (((init ++ [last]).length : Int) - 1) = (init.length : Int) by rw [hlen]; rw [w64 (by omega) (by omega)]; omega, if_pos (by omega), if_pos (by rw [hlen]; omega), hrd, Int.toNat_natCast, w64 (n := last.f1 + b) (by omega) (by omega)]
          have : (init ++ [last]).set init.length (⟨last.f0, last.f1 + b⟩ : EX) = init ++ [⟨last.f0, last.f1 + b⟩] := by simp
          rw [this]; rfl
        · rw [secs_app, secs_app, List.append_assoc]
          congr 1
          show runX last.f0 (last.f1 + b) ++ [] = (runX last.f0 last.f1 ++ []) ++ runX a b
          rw [List.append_nil, List.append_nil, runX_add _ _ _ (by omega) (by omega), c]
        · simp at hl ⊢; omega
        · rcases List.mem_append.1 he with h | h
          · obtain ⟨h1, h2, h3, h4⟩ := hx e (by simp [h])
            exact ⟨h1, h2, h3, by omega⟩
          · rw [List.mem_singleton] at h
            subst h
            exact ⟨o1, o2, by show 1 ≤ last.f1 + b; omega, by show last.f1 + b ≤ B + 16; omega⟩
      · obtain ⟨g, hg, hp⟩ := app _ (beq_eq_false_iff_ne.2 c)
        exact ⟨g, hq g hg, hp⟩
theorem take_run (a m : Int) (r : Nat) (hm : 0 ≤ m) (hr : (r : Int) ≤ m) : (runX a m).take r = runX a (r : Int) := by
  unfold runX
  rw [← List.map_take, List.take_range, Int.toNat_natCast, Nat.min_eq_left (by omega)]
/-- What Cut leaves, and what it frees. -/
def cutL : List EX → Int → List EX
  | [], _ => []
  | e :: xs, r => (if mn e.f1 r > 0 then [⟨e.f0, mn e.f1 r⟩] else []) ++ cutL xs (wrap64 (r - mn e.f1 r))
def cutF : List EX → Int → List EX
  | [], _ => []
  | e :: xs, r => (if mn e.f1 r < e.f1 then [⟨wrap64 (e.f0 + mn e.f1 r), wrap64 (e.f1 - mn e.f1 r)⟩] else []) ++ cutF xs (wrap64 (r - mn e.f1 r))
theorem cutL_len : ∀ (xs : List EX) (r : Int), (cutL xs r).length ≤ xs.length
  | [], _ => by rw [cutL]; exact Nat.le_refl _
  | e :: xs, r => by
    have ih := cutL_len xs (wrap64 (r - mn e.f1 r))
    rw [cutL, List.length_append, List.length_cons]
    split
    · rw [List.length_singleton]; omega
    · rw [List.length_nil]; omega
theorem cutF_len : ∀ (xs : List EX) (r : Int), (cutF xs r).length ≤ xs.length
  | [], _ => by rw [cutF]; exact Nat.le_refl _
  | e :: xs, r => by
    have ih := cutF_len xs (wrap64 (r - mn e.f1 r))
    rw [cutF, List.length_append, List.length_cons]
    split
    · rw [List.length_singleton]; omega
    · rw [List.length_nil]; omega
theorem mn_eq (a b : Int) : mn a b = if b < a then b else a := rfl
/-- The sectors that are left: the first ones. -/
theorem secs_cutL (B : Int) : ∀ (xs : List EX) (r : Int), (∀ e ∈ xs, okB B e) → B ≤ 100000 → 0 ≤ r → r ≤ 1000000000 → secs (cutL xs r) = (secs xs).take r.toNat ∧ ∀ e ∈ cutL xs r, okB B e
  | [], r, _, _, _, _ => by
    rw [cutL]
    exact ⟨by show [] = List.take _ []; rw [List.take_nil], fun e he => by cases he⟩
  | q :: xs, r, hx, hB, h0, h1 => by
    obtain ⟨o1, o2, o3, o4⟩ := hx q (by simp)
    have hx' : ∀ e ∈ xs, okB B e := fun e he => hx e (by simp [he])
    rw [cutL, secs_app, secs_cons, List.take_append, runX_len, mn_eq]
    by_cases c : r < q.f1
    · rw [if_pos c, w64 (by omega) (by omega), show r - r = 0 by omega]
      obtain ⟨p1, p2⟩ := secs_cutL B xs 0 hx' hB (by omega) (by omega)
      rw [p1, show r.toNat - q.f1.toNat = (0 : Int).toNat by omega]
      have tr := take_run q.f0 q.f1 r.toNat (by omega) (by omega)
      rw [tr]
      by_cases cz : r > 0
      · rw [if_pos cz]
        refine ⟨?_, fun e he => ?_⟩
        · congr 1
          show runX q.f0 r ++ [] = runX q.f0 ((r.toNat : Nat) : Int)
          rw [List.append_nil, show ((r.toNat : Nat) : Int) = r by omega]
        · rcases List.mem_append.1 he with h | h
          · rw [List.mem_singleton] at h; subst h
            exact ⟨o1, o2, by show 1 ≤ r; omega, by show r ≤ B; omega⟩
          · exact p2 e h
      · rw [if_neg cz]
        refine ⟨?_, fun e he => ?_⟩
        · congr 1
          rw [show ((r.toNat : Nat) : Int) = 0 by omega]; rfl
        · exact p2 e (by simpa using he)
    · rw [if_neg c, w64 (by omega) (by omega)]
      obtain ⟨p1, p2⟩ := secs_cutL B xs (r - q.f1) hx' hB (by omega) (by omega)
      rw [p1, if_pos (by omega), List.take_of_length_le (l := runX q.f0 q.f1) (by rw [runX_len]; omega), show r.toNat - q.f1.toNat = (r - q.f1).toNat by omega]
      refine ⟨?_, fun e he => ?_⟩
      · congr 1
        show runX q.f0 q.f1 ++ [] = _
        rw [List.append_nil]
      · rcases List.mem_append.1 he with h | h
        · rw [List.mem_singleton] at h; subst h
          exact ⟨o1, o2, o3, o4⟩
        · exact p2 e h
/-! ### plays08 -/
theorem Ev.suc {α : Type} {g : Nat → Option α} {r : α} (h : Ev (fun k => g (k + 1)) r) : Ev g r := Ev.step (fun _ => rfl) h
def xr (e : EX) : RX := ⟨e.f0, e.f1⟩
theorem secs_conv (xs : List EX) : secsR (xs.map xr) = secs xs := by
  unfold secs secsR
  rw [List.flatMap_map]; rfl
def thX (e : EX) : Prop := 0 ≤ e.f0 ∧ 1 ≤ e.f1 ∧ e.f1 ≤ 2048 ∧ e.f0 ≤ 2048 - e.f1
instance (e : EX) : Decidable (thX e) := by unfold thX; exact inferInstance
def djX (a b : EX) : Prop := a.f0 + a.f1 ≤ b.f0 ∨ b.f0 + b.f1 ≤ a.f0
/-- A list that may be: short enough, each is there, no two meet. -/
def InvX (xs : List EX) : Prop := xs.length ≤ 36 ∧ (∀ e ∈ xs, thX e) ∧ xs.Pairwise djX
def mtB (a b : Int) (o : EX) : Bool := decide (a < o.f0 + o.f1) && decide (o.f0 < a + b)
theorem thX_ok {e : EX} (h : thX e) : okX e := ⟨h.1, by have := h.2; omega, h.2.1, by have := h.2; omega⟩
theorem there_f (a b : Int) : inode_Extent_there.f a b 2048 = some (decide (thX ⟨a, b⟩)) := by
  unfold inode_Extent_there.f
  by_cases h1 : a ≥ 0
  · rw [if_pos h1]
    by_cases h2 : b ≥ 1
    · rw [if_pos h2]
      by_cases h3 : b ≤ 2048
      · rw [if_pos h3, w64 (by omega) (by omega)]
        congr 1
        rw [decide_eq_decide]
        exact ⟨fun h => ⟨h1, h2, h3, h⟩, fun h => h.2.2.2⟩
      · rw [if_neg h3, decide_eq_false (fun h => h3 h.2.2.1)]
    · rw [if_neg h2, decide_eq_false (fun h => h2 h.2.1)]
  · rw [if_neg h1, decide_eq_false (fun h => h1 h.1)]
theorem meets_f (a b : Int) (o : EX) (h : thX ⟨a, b⟩) (ho : thX o) : inode_Extent_meets.f a b o.f0 o.f1 = some (mtB a b o) := by
  obtain ⟨a1, a2, a3, a4⟩ := h
  obtain ⟨o1, o2, o3, o4⟩ := ho
  dsimp only at a1 a2 a3 a4
  unfold inode_Extent_meets.f mtB
  rw [w64 (n := o.f0 + o.f1) (by omega) (by omega), w64 (n := a + b) (by omega) (by omega)]
  by_cases c : a < o.f0 + o.f1
  · rw [if_pos c, decide_eq_true c, Bool.true_and]
  · rw [if_neg c, decide_eq_false c, Bool.false_and]
theorem any_f (a b : Int) (h : thX ⟨a, b⟩) : ∀ xs : List EX, (∀ e ∈ xs, thX e) → anyMeets a b xs = some (xs.any (mtB a b))
  | [], _ => rfl
  | o :: xs, hx => by
    rw [anyMeets, meets_f a b o h (hx o (by simp)), Option.bind_some, any_f a b h xs (fun e he => hx e (by simp [he])), List.any_cons]
    cases mtB a b o <;> rfl
theorem mt_dj {a b : Int} {o : EX} (h : mtB a b o = false) : djX o ⟨a, b⟩ := by
  unfold mtB at h
  unfold djX
  by_cases c : a < o.f0 + o.f1
  · rw [decide_eq_true c, Bool.true_and] at h
    have := of_decide_eq_false h
    right; show a + b ≤ o.f0; omega
  · left; show o.f0 + o.f1 ≤ a; omega
theorem dj_mt {o x : EX} (h : djX o x) : mtB x.f0 x.f1 o = false := by
  unfold mtB
  rcases h with h | h
  · rw [decide_eq_false (by omega), Bool.false_and]
  · rw [decide_eq_false (p := o.f0 < x.f0 + x.f1) (by omega), Bool.and_false]
theorem dj_symm {a b : EX} (h : djX a b) : djX b a := h.symm
theorem right_from : ∀ (xs pre : List EX), (∀ e ∈ xs, thX e) → (∀ e ∈ pre, thX e) → xs.Pairwise djX → (∀ p ∈ pre, ∀ x ∈ xs, djX p x) → rightFrom 2048 pre xs = some true
  | [], _, _, _, _, _ => rfl
  | x :: xs, pre, h1, h2, h3, h4 => by
    have hx : thX x := h1 x (by simp)
    have hp := List.pairwise_cons.1 h3
    rw [rightFrom, there_f, decide_eq_true hx, Option.bind_some, if_pos rfl, any_f _ _ hx pre h2, Option.bind_some]
    have : pre.any (mtB x.f0 x.f1) = false := by
      rw [List.any_eq_false]
      intro o ho
      rw [dj_mt (h4 o ho x (by simp))]; decide
    rw [this, if_neg (by decide)]
    refine right_from xs (pre ++ [x]) (fun e he => h1 e (by simp [he])) (fun e he => ?_) hp.2 (fun p hpm y hy => ?_)
    · rcases List.mem_append.1 he with h | h
      · exact h2 e h
      · rw [List.mem_singleton] at h; subst h; exact hx
    · rcases List.mem_append.1 hpm with h | h
      · exact h4 p h y (by simp [hy])
      · rw [List.mem_singleton] at h; subst h; exact hp.1 y hy
theorem right_f (v : Int) (xs : List EX) (h0 : 0 ≤ v) (h1 : v ≤ 100) (h : InvX xs) : inode_Right.f v xs 2048 = some true := by
  unfold inode_Right.f
  have := h.1
  rw [if_neg (by omega)]
  exact right_from xs [] h.2.1 (fun e he => by cases he) h.2.2 (fun p hp => by cases hp)
theorem run_any (a n f m : Int) (hn : 1 ≤ n) (hm : 1 ≤ m) : (runX f m).any (fun s => decide (a ≤ s) && decide (s < a + n)) = (decide (a < f + m) && decide (f < a + n)) := by
  rw [Bool.eq_iff_iff, List.any_eq_true]
  constructor
  · rintro ⟨s, hs, h⟩
    unfold runX at hs
    obtain ⟨k, hk, rfl⟩ := List.mem_map.1 hs
    rw [List.mem_range] at hk
    simp only [Bool.and_eq_true, decide_eq_true_eq] at h ⊢
    omega
  · intro h
    simp only [Bool.and_eq_true, decide_eq_true_eq] at h
    have mem : ∀ k : Nat, (k : Int) < m → f + (k : Int) ∈ runX f m := fun k hk => by
      unfold runX
      exact List.mem_map.2 ⟨k, List.mem_range.2 (by omega), rfl⟩
    by_cases c : a ≤ f
    · refine ⟨f + ((0 : Nat) : Int), mem 0 (by omega), ?_⟩
      simp only [Bool.and_eq_true, decide_eq_true_eq]; omega
    · refine ⟨f + (((a - f).toNat : Nat) : Int), mem _ (by omega), ?_⟩
      simp only [Bool.and_eq_true, decide_eq_true_eq]; omega
theorem secs_any (a n : Int) (hn : 1 ≤ n) : ∀ xs : List EX, (∀ e ∈ xs, thX e) → (secs xs).any (fun s => decide (a ≤ s) && decide (s < a + n)) = xs.any (mtB a n)
  | [], _ => rfl
  | o :: xs, h => by
    rw [secs_cons, List.any_append, List.any_cons, secs_any a n hn xs (fun e he => h e (by simp [he])), run_any a n o.f0 o.f1 hn (h o (by simp)).2.1]
    rfl
theorem secs_len : ∀ xs : List EX, (∀ e ∈ xs, thX e) → (secs xs).length ≤ 2048 * xs.length
  | [], _ => by simp [secs]
  | o :: xs, h => by
    have ih := secs_len xs (fun e he => h e (by simp [he]))
    have := (h o (by simp)).2
    rw [secs_cons, List.length_append, runX_len, List.length_cons]; omega
theorem good_conv {xs : List EX} (h : ∀ e ∈ xs, thX e) : ∀ e ∈ xs.map xr, goodR e := by
  intro e he
  obtain ⟨x, hx, rfl⟩ := List.mem_map.1 he
  obtain ⟨h1, h2, h3, h4⟩ := h x hx
  exact ⟨h2, h1, h3, h4⟩
theorem rdI (S : List Int) (i : Nat) (h : i < S.length) : rd S (i : Int) = S[i] := by
  show S.getD (i : Int).toNat 0 = _
  rw [Int.toNat_natCast, List.getD_eq_getElem?_getD, List.getElem?_eq_getElem h]; rfl
/-- What both answer alike. -/
def Both (v : Int) (g : Int × List EX) (ge : Option Int) (r : Int × List RX) (re : Int) : Prop := r.1 = g.1 ∧ r.2 = g.2.map xr ∧ ge.getD 0 = re ∧ g.2.length ≤ 36 ∧ (re = 0 → InvX g.2 ∧ v ≤ g.1 ∧ g.1 ≤ v + 1)
theorem both_err (v c : Int) (hc : c ≠ 0) : Both v (0, []) (some c) (0, []) c := ⟨rfl, rfl, rfl, by simp, fun h => absurd h hc⟩
theorem cutL_sub : ∀ (xs : List EX) (r : Int), (∀ e ∈ xs, thX e) → ∀ e ∈ cutL xs r, ∃ o ∈ xs, e.f0 = o.f0 ∧ 1 ≤ e.f1 ∧ e.f1 ≤ o.f1
  | [], _, _ => fun e he => by rw [cutL] at he; cases he
  | q :: xs, r, h => fun e he => by
    rw [cutL] at he
    rcases List.mem_append.1 he with h1 | h1
    · split at h1
      · rw [List.mem_singleton] at h1; subst h1
        refine ⟨q, by simp, rfl, by show 1 ≤ mn q.f1 r; omega, ?_⟩
        show mn q.f1 r ≤ q.f1
        rw [mn_eq]; split <;> omega
      · cases h1
    · obtain ⟨o, ho, p⟩ := cutL_sub xs _ (fun e he => h e (by simp [he])) e h1
      exact ⟨o, by simp [ho], p⟩
theorem cutL_inv : ∀ (xs : List EX) (r : Int), (∀ e ∈ xs, thX e) → xs.Pairwise djX → (∀ e ∈ cutL xs r, thX e) ∧ (cutL xs r).Pairwise djX
  | [], _, _, _ => by rw [cutL]; exact ⟨(fun e he => by cases he), List.Pairwise.nil⟩
  | q :: xs, r, h, hp => by
    have hp' := List.pairwise_cons.1 hp
    have hth' : ∀ e ∈ xs, thX e := fun e he => h e (by simp [he])
    obtain ⟨i1, i2⟩ := cutL_inv xs (wrap64 (r - mn q.f1 r)) hth' hp'.2
    obtain ⟨o1, o2, o3, o4⟩ := h q (by simp)
    have hm : mn q.f1 r ≤ q.f1 := by rw [mn_eq]; split <;> omega
    rw [cutL]
    by_cases c : mn q.f1 r > 0
    · rw [if_pos c]
      refine ⟨fun e he => ?_, ?_⟩
      · rcases List.mem_append.1 he with h1 | h1
        · rw [List.mem_singleton] at h1; subst h1
          exact ⟨o1, by show 1 ≤ mn q.f1 r; omega, by show mn q.f1 r ≤ 2048; omega, by show q.f0 ≤ 2048 - mn q.f1 r; omega⟩
        · exact i1 e h1
      · refine List.pairwise_cons.2 ⟨fun e he => ?_, i2⟩
        obtain ⟨o, ho, p1, p2, p3⟩ := cutL_sub xs _ hth' e he
        have d := hp'.1 o ho
        unfold djX at d ⊢
        dsimp only
        omega
    · rw [if_neg c]
      exact ⟨i1, i2⟩
theorem wsum {n f : Int} (h0 : 0 ≤ n) (h1 : n ≤ 100000) (h2 : 1 ≤ f) (h3 : f ≤ 2048) : wrap64 (n + f) = n + f := w64 (by omega) (by omega)
theorem wdif {b n : Int} (h0 : 0 ≤ b) (h1 : b ≤ 1000000) (h2 : 0 ≤ n) (h3 : n ≤ 100000) : wrap64 (b - n) = b - n := w64 (by omega) (by omega)
theorem wsum3 {n f : Int} {i : Nat} (h0 : n ≤ 2048 * (i : Int)) (h1 : f ≤ 2048) : n + f ≤ 2048 * ((i + 1 : Nat) : Int) := by omega
theorem cut_rest (b n f r : Int) (hf : 1 ≤ f) (hf2 : f ≤ 2048) (hb0 : 0 ≤ b) (hb1 : b ≤ 1000000) (hn0 : 0 ≤ n) (hn1 : n ≤ 1000000) (hr : r = (if b - n < 0 then 0 else b - n)) : wrap64 (r - mn f r) = (if b - (n + f) < 0 then 0 else b - (n + f)) := by
  rw [mn_eq]
  by_cases d1 : b - n < 0
  · rw [if_pos d1] at hr
    subst hr
    rw [if_pos (show (0 : Int) < f by omega), w64 (by omega) (by omega), if_pos (by omega)]; omega
  · rw [if_neg d1] at hr
    by_cases d2 : r < f
    · rw [if_pos d2, w64 (by omega) (by omega), if_pos (by omega)]; omega
    · rw [if_neg d2, w64 (by omega) (by omega), if_neg (by omega)]; omega
theorem cut_keep (b n f r : Int) (hf : 1 ≤ f) (hr : r = (if b - n < 0 then 0 else b - n)) : mn f r = (if (if b - n > f then f else b - n) < 0 then 0 else (if b - n > f then f else b - n)) := by
  rw [mn_eq]
  by_cases d1 : b - n < 0
  · rw [if_pos d1] at hr
    subst hr
    rw [if_pos (show (0 : Int) < f by omega), if_neg (show ¬ b - n > f by omega), if_pos d1]
  · rw [if_neg d1] at hr
    by_cases d2 : b - n > f
    · rw [if_pos d2, if_neg (show ¬ r < f by omega), if_neg (by omega)]
    · rw [if_neg d2, if_neg d1]
      by_cases d3 : r < f
      · rw [if_pos d3]; exact hr
      · rw [if_neg d3]; omega
theorem pw_set (xs : List EX) (i : Nat) (x : EX) (h : xs.Pairwise djX) (hx : ∀ o ∈ xs, djX o x) : (xs.set i x).Pairwise djX := by
  rw [List.pairwise_iff_getElem] at h ⊢
  intro p q hp hq hpq
  rw [List.length_set] at hp hq
  rw [List.getElem_set, List.getElem_set]
  by_cases c1 : i = p
  · rw [if_pos c1, if_neg (by omega)]
    exact dj_symm (hx _ (List.getElem_mem hq))
  · rw [if_neg c1]
    by_cases c2 : i = q
    · rw [if_pos c2]; exact hx _ (List.getElem_mem hp)
    · rw [if_neg c2]; exact h p q hp hq hpq
theorem same_ev (v : Int) (xs : List EX) (hl : xs.length ≤ 1000) : Ev (fun k => posthorselaw08_same.f k v xs v (xs.map xr)) true := by
  have hlm : (xs.map xr).length = xs.length := List.length_map _
  have lp : ∀ (d i : Nat), i + d = xs.length → Ev (fun k => posthorselaw08_same.l0 k (i : Int) v xs v (xs.map xr)) true := by
    intro d
    induction d with
    | zero =>
      intro i hi
      exact Ev.from 1 fun k => by rw [posthorselaw08_same.l0, hlm, if_neg (by omega)]
    | succ d ih =>
      intro i hi
      have hil : i < xs.length := by omega
      refine Ev.step (fun k => ?_) (ih (i + 1) (by omega))
      rw [posthorselaw08_same.l0, hlm, if_pos (by omega), if_pos (by omega), if_pos (by omega), rdX xs i hil, rdR _ i (by rw [hlm]; exact hil), List.getElem_map, w64 (by omega) (by omega), if_neg (by simp [xr])]
      rfl
  unfold posthorselaw08_same.f
  simp only [if_true]
  refine Ev.step (fun k => ?_) (lp xs.length 0 (by omega))
  rw [posthorselaw08_same.j0, hlm, if_neg (by simp)]; rfl

/-! ### right08 -/
def thS (s : Int) (e : EX) : Prop := 0 ≤ e.f0 ∧ 1 ≤ e.f1 ∧ e.f1 ≤ s ∧ e.f0 ≤ s - e.f1
instance (s : Int) (e : EX) : Decidable (thS s e) := by unfold thS; exact inferInstance
theorem thS_up {s : Int} {e : EX} (h : thS s e) (hs : s ≤ 2048) : thX e := ⟨h.1, h.2.1, by have := h.2; omega, by have := h.2; omega⟩
/-- Right, of what is left of a list. -/
def specR (s : Int) : List EX → List EX → Bool
  | _, [] => true
  | pre, x :: xs => decide (thS s x) && (!(pre.any (mtB x.f0 x.f1)) && specR s (pre ++ [x]) xs)
def rightB (v : Int) (xs : List EX) (s : Int) : Bool := if s < 1 ∨ s > 2048 ∨ v < 0 ∨ v > 281474976710655 ∨ (xs.length : Int) > 36 then false else specR s [] xs
theorem there_s (a b s : Int) (hs : s ≤ 2048) : inode_Extent_there.f a b s = some (decide (thS s ⟨a, b⟩)) := by
  unfold inode_Extent_there.f
  by_cases h1 : a ≥ 0
  · rw [if_pos h1]
    by_cases h2 : b ≥ 1
    · rw [if_pos h2]
      by_cases h3 : b ≤ s
      · rw [if_pos h3, w64 (by omega) (by omega)]
        congr 1
        rw [decide_eq_decide]
        exact ⟨fun h => ⟨h1, h2, h3, h⟩, fun h => h.2.2.2⟩
      · rw [if_neg h3, decide_eq_false (fun h => h3 h.2.2.1)]
    · rw [if_neg h2, decide_eq_false (fun h => h2 h.2.1)]
  · rw [if_neg h1, decide_eq_false (fun h => h1 h.1)]
theorem spec_from (s : Int) (hs : s ≤ 2048) : ∀ (xs pre : List EX), (∀ e ∈ pre, thX e) → rightFrom s pre xs = some (specR s pre xs)
  | [], _, _ => rfl
  | x :: xs, pre, h => by
    rw [rightFrom, there_s _ _ s hs, Option.bind_some, specR]
    by_cases hx : thS s x
    · have hx' := thS_up hx hs
      rw [decide_eq_true hx, if_pos rfl, any_f _ _ hx' pre h, Option.bind_some, Bool.true_and]
      cases pre.any (mtB x.f0 x.f1) with
      | true => rfl
      | false =>
        rw [if_neg (by decide), Bool.not_false, Bool.true_and]
        refine spec_from s hs xs (pre ++ [x]) fun e he => ?_
        rcases List.mem_append.1 he with h1 | h1
        · exact h e h1
        · rw [List.mem_singleton] at h1; subst h1; exact hx'
    · have e1 : decide (thS s ⟨x.f0, x.f1⟩) = false := decide_eq_false hx
      rw [e1, if_neg (by decide), Bool.false_and]
theorem right_all (v : Int) (xs : List EX) (s : Int) : inode_Right.f v xs s = some (rightB v xs s) := by
  unfold inode_Right.f rightB
  by_cases h : s < 1 ∨ s > 2048 ∨ v < 0 ∨ v > 281474976710655 ∨ (xs.length : Int) > 36
  · rw [if_pos h, if_pos h]
  · rw [if_neg h, if_neg h]
    exact spec_from s (by omega) xs [] (fun e he => by cases he)
theorem rdBset (seen : List Bool) (p q : Nat) (hp : p < seen.length) : rdOf false (seen.set p true) (q : Int) = (decide (q = p) || rdOf false seen (q : Int)) := by
  show (seen.set p true).getD (q : Int).toNat false = (decide (q = p) || seen.getD (q : Int).toNat false)
  rw [Int.toNat_natCast, List.getD_eq_getElem?_getD, List.getD_eq_getElem?_getD, List.getElem?_set]
  by_cases c : p = q
  · rw [if_pos c, if_pos hp, decide_eq_true c.symm]; rfl
  · rw [if_neg c, decide_eq_false (fun h => c h.symm), Bool.false_or]
/-- Which sectors are seen: those of the extents so far, and a run's first ones. -/
def seenIs (s : Nat) (pre : List EX) (a p : Int) (seen : List Bool) : Prop := seen.length = s ∧ ∀ k : Nat, k < s → rdOf false seen (k : Int) = (decide ((k : Int) ∈ secs pre) || (decide (a ≤ (k : Int)) && decide ((k : Int) < p)))
theorem mem_run (a n k : Int) : k ∈ runX a n ↔ a ≤ k ∧ k < a + n := by
  unfold runX
  rw [List.mem_map]
  constructor
  · rintro ⟨j, hj, rfl⟩
    rw [List.mem_range] at hj
    omega
  · intro h
    exact ⟨(k - a).toNat, List.mem_range.2 (by omega), by omega⟩
theorem secs_snoc (pre : List EX) (x : EX) : secs (pre ++ [x]) = secs pre ++ runX x.f0 x.f1 := by
  rw [secs_app]; congr 1; show runX _ _ ++ [] = _; rw [List.append_nil]
theorem refRight_spec (v : Int) (ys : List EX) (s : Nat) (hs0 : 1 ≤ s) (hs : s ≤ 2048) (hl : ys.length ≤ 1000) : ∀ (d i : Nat) (seen : List Bool) (pre : List EX), i + d = ys.length → (∀ e ∈ pre, thX e) → seenIs s pre 0 0 seen → Ev (fun k => posthorseref08_Right.l0 k (s : Int) seen (i : Int) v (ys.map xr)) (specR (s : Int) pre (ys.drop i)) := by
  intro d
  induction d with
  | zero =>
    intro i seen pre hi hpre hse
    rw [List.drop_eq_nil_of_le (by omega), specR]
    exact Ev.from 1 fun k => by rw [posthorseref08_Right.l0, List.length_map, if_neg (by omega)]
  | succ d ih =>
    intro i seen pre hi hpre hse
    have hil : i < ys.length := by omega
    have hR : rd_T56 (ys.map xr) (i : Int) = xr ys[i] := by rw [rdR _ _ (by rw [List.length_map]; exact hil), List.getElem_map]
    rw [List.drop_eq_getElem_cons hil, specR]
    generalize ys[i]'hil = x at hR ⊢
    have q0 : (xr x).f0 = x.f0 := rfl
    have q1 : (xr x).f1 = x.f1 := rfl
    have st : ∀ g, Ev (fun k => if x.f1 < 1 then (posthorseref08_Right.j2 k (s : Int) seen (i : Int) true v (ys.map xr) x.f0 x.f1) else (if x.f0 < 0 then (posthorseref08_Right.j2 k (s : Int) seen (i : Int) true v (ys.map xr) x.f0 x.f1) else (if x.f1 > (s : Int) then (posthorseref08_Right.j2 k (s : Int) seen (i : Int) true v (ys.map xr) x.f0 x.f1) else (posthorseref08_Right.j2 k (s : Int) seen (i : Int) (decide (x.f0 > wrap64 ((s : Int) - x.f1))) v (ys.map xr) x.f0 x.f1)))) g → Ev (fun k => posthorseref08_Right.l0 k (s : Int) seen (i : Int) v (ys.map xr)) g := fun g h => by
      refine Ev.step (fun k => ?_) h
      rw [posthorseref08_Right.l0, List.length_map, if_pos (by omega), if_pos (by omega), hR, q0, q1]
    have bad : Ev (fun k => posthorseref08_Right.j2 k (s : Int) seen (i : Int) true v (ys.map xr) x.f0 x.f1) false := Ev.from 1 fun k => by rw [posthorseref08_Right.j2, if_pos rfl]
    by_cases hx : thS (s : Int) x
    case neg =>
      rw [decide_eq_false hx, Bool.false_and]
      refine st _ ?_
      by_cases g1 : x.f1 < 1
      · simp only [if_pos g1]; exact bad
      by_cases g2 : x.f0 < 0
      · simp only [if_neg g1, if_pos g2]; exact bad
      by_cases g3 : x.f1 > (s : Int)
      · simp only [if_neg g1, if_neg g2, if_pos g3]; exact bad
      simp only [if_neg g1, if_neg g2, if_neg g3]
      rw [w64 (by omega) (by omega), decide_eq_true (show x.f0 > (s : Int) - x.f1 from Int.not_le.1 fun h => hx ⟨by omega, by omega, by omega, h⟩)]
      exact bad
    rw [decide_eq_true hx, Bool.true_and]
    obtain ⟨x1, x2, x3, x4⟩ := hx
    have hxX : thX x := ⟨x1, x2, by omega, by omega⟩
    have wx : wrap64 (x.f0 + x.f1) = x.f0 + x.f1 := w64 (by omega) (by omega)
    have wi : wrap64 ((i : Int) + 1) = ((i + 1 : Nat) : Int) := by rw [w64 (by omega) (by omega)]; rfl
    refine st _ ?_
    simp only [if_neg (show ¬ x.f1 < 1 by omega), if_neg (show ¬ x.f0 < 0 by omega), if_neg (show ¬ x.f1 > (s : Int) by omega)]
    rw [w64 (n := (s : Int) - x.f1) (by omega) (by omega), decide_eq_false (show ¬ x.f0 > (s : Int) - x.f1 by omega)]
    refine Ev.step (f := fun k => posthorseref08_Right.l1 k (s : Int) seen (i : Int) x.f0 v (ys.map xr) x.f0 x.f1) (fun k => by rw [posthorseref08_Right.j2, if_neg (by decide)]) ?_
    have hih := ih (i + 1)
    clear ih st bad hR
    -- the run
    have inner : ∀ (d2 : Nat) (p : Nat) (seen : List Bool), (p : Int) + (d2 : Int) = x.f0 + x.f1 → x.f0 ≤ (p : Int) → seenIs s pre x.f0 (p : Int) seen → (∀ k : Int, x.f0 ≤ k → k < (p : Int) → k ∉ secs pre) → Ev (fun k => posthorseref08_Right.l1 k (s : Int) seen (i : Int) (p : Int) v (ys.map xr) x.f0 x.f1) (!(pre.any (mtB x.f0 x.f1)) && specR (s : Int) (pre ++ [x]) (ys.drop (i + 1))) := by
      intro d2
      induction d2 with
      | zero =>
        intro p seen hp hp0 hsn hno
        have hmt : pre.any (mtB x.f0 x.f1) = false := by
          rw [← secs_any x.f0 x.f1 x2 pre hpre, List.any_eq_false]
          intro k hk hc
          simp only [Bool.and_eq_true, decide_eq_true_eq] at hc
          exact hno k hc.1 (by omega) hk
        rw [hmt, Bool.not_false, Bool.true_and]
        refine Ev.step (fun k => ?_) (hih seen (pre ++ [x]) (by omega) (fun e he => ?_) ⟨hsn.1, fun k hk => ?_⟩)
        · rw [posthorseref08_Right.l1, wx, if_neg (by omega), wi]
        · rcases List.mem_append.1 he with h1 | h1
          · exact hpre e h1
          · rw [List.mem_singleton] at h1; subst h1; exact hxX
        · rw [hsn.2 k hk, secs_snoc, show (p : Int) = x.f0 + x.f1 by omega, ← Bool.decide_and, ← Bool.decide_or, ← Bool.decide_and, ← Bool.decide_or, decide_eq_decide, List.mem_append, mem_run]
          constructor
          · rintro (h | h)
            · exact .inl (.inl h)
            · exact .inl (.inr h)
          · rintro ((h | h) | h)
            · exact .inl h
            · exact .inr h
            · omega
      | succ d2 ih2 =>
        intro p seen hp hp0 hsn hno
        have hps : p < s := by omega
        have hrd := hsn.2 p hps
        rw [decide_eq_false (p := (p : Int) < (p : Int)) (by omega), Bool.and_false, Bool.or_false] at hrd
        by_cases hm : (p : Int) ∈ secs pre
        · rw [decide_eq_true hm] at hrd
          have hmt : pre.any (mtB x.f0 x.f1) = true := by
            rw [← secs_any x.f0 x.f1 x2 pre hpre, List.any_eq_true]
            exact ⟨_, hm, by simp only [Bool.and_eq_true, decide_eq_true_eq]; omega⟩
          rw [hmt, Bool.not_true, Bool.false_and]
          refine Ev.from 1 fun k => ?_
          rw [posthorseref08_Right.l1, wx, if_pos (by omega), if_pos (by omega), if_pos (by rw [hsn.1]; omega), if_pos hrd]
        · rw [decide_eq_false hm] at hrd
          refine Ev.step (fun k => ?_) (ih2 (p + 1) (seen.set p true) (by omega) (by omega) ⟨by rw [List.length_set]; exact hsn.1, fun k hk => ?_⟩ (fun k h1 h2 => ?_))
          · rw [posthorseref08_Right.l1, wx, if_pos (by omega), if_pos (by omega), if_pos (by rw [hsn.1]; omega), if_neg (by rw [hrd]; decide), w64 (n := (p : Int) + 1) (by omega) (by omega), Int.toNat_natCast]
            rfl
          · rw [rdBset seen p k (by rw [hsn.1]; exact hps), hsn.2 k hk, ← Bool.decide_and, ← Bool.decide_or, ← Bool.decide_or, ← Bool.decide_and, ← Bool.decide_or, decide_eq_decide]
            constructor
            · rintro (h | h | h)
              · subst h; exact .inr ⟨hp0, by omega⟩
              · exact .inl h
              · exact .inr ⟨h.1, by omega⟩
            · rintro (h | h)
              · exact .inr (.inl h)
              · by_cases e : k = p
                · exact .inl e
                · exact .inr (.inr ⟨h.1, by omega⟩)
          · by_cases e : k = (p : Int)
            · subst e; exact hm
            · exact hno k h1 (by omega)
    obtain ⟨a, ha⟩ := Int.eq_ofNat_of_zero_le x1
    have h := inner x.f1.toNat a seen (by omega) (by omega) ⟨hse.1, fun k hk => by rw [hse.2 k hk, decide_eq_false (p := (k : Int) < 0) (by omega), Bool.and_false, ← Bool.decide_and, show decide (x.f0 ≤ (k : Int) ∧ (k : Int) < (a : Int)) = false from decide_eq_false (by omega)]⟩ (fun k h1 h2 => by omega)
    rw [← ha] at h
    exact h
theorem refRight_all (v : Int) (xs : List EX) (s : Int) (hl : xs.length ≤ 1000) : Ev (fun k => posthorseref08_Right.f k v (xs.map xr) s) (rightB v xs s) := by
  have bad : Ev (fun k => posthorseref08_Right.j0 k s true v (xs.map xr)) false := Ev.from 1 fun k => by rw [posthorseref08_Right.j0, if_pos rfl]
  have hlm : (xs.map xr).length = xs.length := List.length_map _
  unfold posthorseref08_Right.f rightB
  by_cases h1 : s < 1
  · rw [if_pos (by omega)]; simp only [if_pos h1]; exact bad
  by_cases h2 : s > 2048
  · rw [if_pos (by omega)]; simp only [if_neg h1, if_pos h2]; exact bad
  by_cases h3 : v < 0
  · rw [if_pos (by omega)]; simp only [if_neg h1, if_neg h2, if_pos h3]; exact bad
  by_cases h4 : v ≥ 281474976710656
  · rw [if_pos (by omega)]; simp only [if_neg h1, if_neg h2, if_neg h3, if_pos h4]; exact bad
  simp only [if_neg h1, if_neg h2, if_neg h3, if_neg h4, hlm]
  by_cases h5 : (xs.length : Int) > 36
  · rw [if_pos (by omega), decide_eq_true h5]; exact bad
  rw [if_neg (by omega), decide_eq_false h5]
  obtain ⟨m, rfl⟩ := Int.eq_ofNat_of_zero_le (show 0 ≤ s by omega)
  have h := refRight_spec v xs m (by omega) (by omega) hl xs.length 0 (List.replicate m false) [] (by omega) (fun e he => by cases he) ⟨List.length_replicate, fun k hk => by
    rw [decide_eq_false (p := (k : Int) < 0) (by omega), Bool.and_false, Bool.or_false]
    show (List.replicate m false).getD _ false = _
    rw [List.getD_eq_getElem?_getD, List.getElem?_replicate]
    split <;> rfl⟩
  rw [List.drop_zero] at h
  refine Ev.step (fun k => ?_) h
  rw [posthorseref08_Right.j0, if_neg (by decide), if_pos (by omega), Int.toNat_natCast, if_pos (by omega)]
  rfl

/-! ### le -/
/-- The bytes of a number, the lowest first. -/
def leB : Nat → Nat → List UInt8
  | 0, _ => []
  | s + 1, n => UInt8.ofNat (n % 256) :: leB s (n / 256)
theorem leB_len : ∀ s n, (leB s n).length = s
  | 0, _ => rfl
  | s + 1, n => by rw [leB, List.length_cons, leB_len s]
/-- .. and back. -/
def unB : List UInt8 → Nat
  | [] => 0
  | b :: r => b.toNat + 256 * unB r
theorem unB_leB : ∀ s n, unB (leB s n) = n % 256 ^ s
  | 0, n => by simp [leB, unB, Nat.mod_one]
  | s + 1, n => by
    rw [leB, unB, unB_leB s]
    have h1 : (UInt8.ofNat (n % 256)).toNat = n % 256 := by simp
    rw [h1, Nat.pow_succ', Nat.mod_mul]
theorem unB_lt : ∀ l : List UInt8, unB l < 256 ^ l.length
  | [] => by simp [unB]
  | b :: r => by
    have := unB_lt r
    have := b.toNat_lt
    rw [unB, List.length_cons, Nat.pow_succ]
    omega
theorem leB_unB : ∀ l : List UInt8, leB l.length (unB l) = l
  | [] => rfl
  | b :: r => by
    have hb := b.toNat_lt
    rw [unB, List.length_cons, leB]
    have h1 : (b.toNat + 256 * unB r) % 256 = b.toNat := by omega
    have h2 : (b.toNat + 256 * unB r) / 256 = unB r := by omega
    rw [h1, h2, leB_unB r]; simp
theorem leB_get : ∀ (s n j : Nat), j < s → (leB s n)[j]? = some (UInt8.ofNat (n / 256 ^ j % 256))
  | s + 1, n, 0, _ => by simp [leB]
  | s + 1, n, j + 1, h => by
    rw [leB, List.getElem?_cons_succ, leB_get s _ j (by omega), Nat.div_div_eq_div_mul, Nat.pow_succ']
/-- What Put answers. -/
def lePutS (n size : Int) : ByteArray := if 1 ≤ size ∧ size ≤ 7 ∧ 0 ≤ n ∧ n < 256 ^ size.toNat then ⟨(leB size.toNat n.toNat).toArray⟩ else ⟨#[]⟩
/-- The row that Put fills, behind i rounds. -/
def leRow (n : Int) (size i : Nat) : List Int := (List.range size).map fun j => if j < i then n / 256 ^ j % 256 else 0
theorem leRow_len (n : Int) (size i : Nat) : (leRow n size i).length = size := by simp [leRow]
theorem leRow_set (n : Int) (size i : Nat) (_ : i < size) : (leRow n size i).set i (n / 256 ^ i % 256) = leRow n size (i + 1) := by
  apply List.ext_getElem
  · simp [leRow]
  · intro j h1 h2
    simp only [leRow, List.length_map, List.length_range, List.length_set] at h1 h2
    rw [List.getElem_set]
    simp only [leRow, List.getElem_map, List.getElem_range]
    by_cases e : i = j
    · subst e; simp
    · rw [if_neg e]
      by_cases hj : j < i
      · rw [if_pos hj, if_pos (by omega)]
      · rw [if_neg hj, if_neg (by omega)]
theorem divcast (m s : Nat) : (m : Int) / 256 ^ s = ((m / 256 ^ s : Nat) : Int) := by
  rw [Int.natCast_ediv]; congr 1
theorem leRow_full (n : Nat) (size : Nat) : Go.strOfNums (leRow n size size) = ⟨(leB size n).toArray⟩ := by
  unfold Go.strOfNums
  congr 2
  apply List.ext_getElem?
  intro j
  by_cases hj : j < size
  · rw [leB_get _ _ _ hj, leRow, List.getElem?_map, List.getElem?_map, List.getElem?_range hj]
    simp only [Option.map_some, if_pos hj]
    have : ((n : Int) / 256 ^ j % 256).toNat = n / 256 ^ j % 256 := by
      have h1 : ((n : Int) / 256 ^ j % 256) = ((n / 256 ^ j % 256 : Nat) : Int) := by rw [divcast]; rfl
      rw [h1, Int.toNat_natCast]
    rw [this]
  · rw [List.getElem?_eq_none (by simp [leRow]; omega), List.getElem?_eq_none (by rw [leB_len]; omega)]
theorem shr_pow (n : Int) (i : Nat) (hi : i ≤ 7) : shr .i64 n (wrap64 (8 * (i : Int))) = n / 256 ^ i := by
  rw [w64 (by omega) (by omega)]
  unfold shr
  have h1 : min (8 * (i : Int)).toNat (IntKind.bits .i64) = 8 * i := by
    have h2 : (8 * (i : Int)).toNat = 8 * i := by omega
    rw [h2]; show min (8 * i) 64 = 8 * i; omega
  rw [h1]
  have h3 : (2 : Int) ^ (8 * i) = 256 ^ i := by
    have h := congrArg (fun x : Nat => (x : Int)) (Nat.pow_mul 2 8 i)
    simp only [Int.natCast_pow] at h
    exact h
  rw [h3]
theorem le_Put_loop (n : Int) (size : Nat) (hs : size ≤ 7) (h0 : 0 ≤ n) : ∀ (d i : Nat), i + d = size → Ev (fun k => le_Put.l0 k n (leRow n size i) (size : Int) (i : Int)) (Go.strOfNums (leRow n size size)) := by
  intro d
  induction d with
  | zero =>
    intro i hi
    obtain rfl : i = size := by omega
    refine Ev.from 1 fun k => ?_
    rw [le_Put.l0, if_neg (by omega)]
  | succ d ih =>
    intro i hi
    refine Ev.step (f := fun k => le_Put.l0 k n (leRow n size (i + 1)) (size : Int) ((i + 1 : Nat) : Int)) (fun k => ?_) (ih (i + 1) (by omega))
    have e1 : wrap64 (8 * (i : Int)) = 8 * (i : Int) := w64 (by omega) (by omega)
    have e2 : wrap64 ((i : Int) + 1) = ((i + 1 : Nat) : Int) := by rw [w64 (by omega) (by omega)]; omega
    rw [le_Put.l0, if_pos (by omega), if_pos (by rw [e1]; omega), if_pos (by omega), if_pos (by rw [leRow_len]; omega), e2, shr_pow n i (by omega), Int.toNat_natCast, leRow_set n size i (by omega)]
theorem le_Put_ev (n size : Int) (hn : (Lit.int .i64 n).wf = true) : Ev (fun k => le_Put.f k n size) (lePutS n size) := by
  have bn := i64b hn
  have bad : ∀ (n size : Int), ¬ (1 ≤ size ∧ size ≤ 7 ∧ 0 ≤ n ∧ n < 256 ^ size.toNat) → Ev (fun k => le_Put.j0 k n size true) (lePutS n size) := by
    intro n size h
    refine Ev.from 1 fun k => ?_
    rw [le_Put.j0, if_pos rfl, lePutS, if_neg h]
  unfold le_Put.f
  by_cases h1 : size < 1
  · simp only [if_pos h1]; exact bad n size (by omega)
  · by_cases h2 : size > 7
    · simp only [if_neg h1, if_pos h2]; exact bad n size (by omega)
    · by_cases h3 : n < 0
      · simp only [if_neg h1, if_neg h2, if_pos h3]; exact bad n size (by omega)
      · obtain ⟨s, rfl⟩ := Int.eq_ofNat_of_zero_le (show 0 ≤ size by omega)
        obtain ⟨m, rfl⟩ := Int.eq_ofNat_of_zero_le (show 0 ≤ n by omega)
        have e1 : wrap64 (8 * (s : Int)) = 8 * (s : Int) := w64 (by omega) (by omega)
        simp only [if_neg h1, if_neg h2, if_neg h3, if_pos (show 0 ≤ wrap64 (8 * (s : Int)) by rw [e1]; omega)]
        rw [shr_pow _ s (by omega)]
        by_cases h4 : m < 256 ^ s
        · have e3 : ((m : Int) / 256 ^ s != 0) = false := by
            rw [divcast, Nat.div_eq_of_lt h4]; rfl
          rw [e3]
          refine Ev.step (f := fun k => le_Put.l0 k (m : Int) (leRow m s 0) (s : Int) ((0 : Nat) : Int)) (fun k => ?_) ?_
          · rw [le_Put.j0, if_neg (by decide), if_pos (by omega), if_pos (by omega)]
            have e4 : (List.replicate (s : Int).toNat 0 : List Int) = leRow m s 0 := by
              rw [Int.toNat_natCast]
              apply List.ext_getElem
              · simp [leRow]
              · intro j h1 h2; simp [leRow]
            simp only [Option.bind_some, e4, leRow_len]
            rfl
          · have := le_Put_loop (m : Int) s (by omega) (by omega) s 0 (by omega)
            rw [leRow_full] at this
            have e5 : lePutS (m : Int) (s : Int) = ⟨(leB s m).toArray⟩ := by
              unfold lePutS
              rw [if_pos ⟨by omega, by omega, by omega, by rw [Int.toNat_natCast]; have h' := Int.ofNat_lt.2 h4; rw [Int.natCast_pow] at h'; exact h'⟩, Int.toNat_natCast, Int.toNat_natCast]
            rw [e5]; exact this
        · have e3 : ((m : Int) / 256 ^ s != 0) = true := by
            rw [divcast, bne_iff_ne]
            have : 0 < m / 256 ^ s := Nat.div_pos (by omega) (Nat.pow_pos (by decide))
            omega
          rw [e3]
          refine bad _ _ ?_
          rw [Int.toNat_natCast]
          intro ⟨_, _, _, h⟩
          have h' : ((m : Nat) : Int) < ((256 ^ s : Nat) : Int) := by rw [Int.natCast_pow]; exact h
          exact h4 (Int.ofNat_lt.1 h')

/-! ### bt -/
theorem bt_at_nat (s : ByteArray) (i : Nat) (h : i < s.data.toList.length) : bt s (i : Int) = ((s.data.toList[i]).toNat : Int) := by
  have h' : i < s.size := by rw [← dlen]; exact h
  unfold bt
  rw [Int.toNat_natCast, dif_pos h', Array.getElem_toList]; rfl

/-! ### markseal -/
theorem sumOfL_lt (l : List UInt8) : sumOfL l < 4294967296 := by unfold sumOfL; omega
/-- The sum's bytes. -/
def sumB (l : List UInt8) : List UInt8 := leB 4 (sumOfL l)
/-- The head's bytes. -/
def headB (kind : Nat) : List UInt8 := [80, 72, UInt8.ofNat (kind % 256), 0]
theorem wf_of {n : Int} (h0 : -9223372036854775808 ≤ n) (h1 : n ≤ 9223372036854775807) : (Lit.int .i64 n).wf = true := by
  have := wrap64_wf n
  rwa [w64 h0 h1] at this
theorem sumOf_ev (s : ByteArray) (hs : s.size ≤ 140737488355328) : Ev (fun k => mark_sumOf.f k s) ⟨(sumB s.data.toList).toArray⟩ := by
  have h := sumOfL_lt s.data.toList
  unfold mark_sumOf.f mark_Sum.f
  rw [if_pos hs]
  refine Ev.bind (Ev.now _) ?_
  rw [w64 (by omega) (by omega)]
  have e : lePutS (sumOfL s.data.toList : Int) 4 = ⟨(sumB s.data.toList).toArray⟩ := by
    unfold lePutS sumB
    rw [if_pos ⟨by omega, by omega, by omega, by show (sumOfL s.data.toList : Int) < 256 ^ 4; omega⟩]; rfl
  rw [← e]
  refine Ev.bind (le_Put_ev _ 4 (wf_of (by omega) (by omega))) (Ev.now _)
theorem head_ev (kind : Int) (h1 : 1 ≤ kind) (h2 : kind ≤ 255) : Ev (fun k => mark_head.f k kind) ⟨(headB kind.toNat).toArray⟩ := by
  have e : lePutS kind 1 = ⟨#[UInt8.ofNat (kind.toNat % 256)]⟩ := by
    unfold lePutS
    rw [if_pos ⟨by omega, by omega, by omega, by show kind < 256 ^ 1; omega⟩]; rfl
  unfold mark_head.f
  refine Ev.bind (le_Put_ev kind 1 (wf_of (by omega) (by omega))) ?_
  rw [e]
  have es : (⟨#[UInt8.ofNat (kind.toNat % 256)]⟩ : ByteArray).size = 1 := rfl
  rw [if_pos (by rw [es]; decide), if_pos (by rw [ByteArray.size_append, es]; decide)]
  have e2 : (⟨#[80, 72]⟩ : ByteArray) ++ ⟨#[UInt8.ofNat (kind.toNat % 256)]⟩ ++ ⟨#[0]⟩ = ⟨(headB kind.toNat).toArray⟩ := by
    rw [deq]; simp [dapp, headB]
  rw [e2]; exact Ev.now _
theorem repeat_zero (c : Int) (h0 : 0 ≤ c) (h1 : c ≤ 140737488355328) : strings_Repeat.f ⟨#[0]⟩ c = some (zerosB c.toNat) := by
  unfold strings_Repeat.f
  rw [if_pos ⟨h0, by show ((1 : Nat) : Int) * c ≤ _; omega, by omega⟩, show (⟨#[0]⟩ : ByteArray).data.toList = [0] from rfl, repeat0]; rfl
/-- What is summed. -/
def bodyL (kind : Nat) (body : List UInt8) : List UInt8 := headB kind ++ body ++ List.replicate (504 - body.length) 0
/-- A sealed sector. -/
def sealL (kind : Nat) (body : List UInt8) : List UInt8 := bodyL kind body ++ sumB (bodyL kind body)
/-- What Seal answers. -/
def sealS (kind : Int) (body : ByteArray) : ByteArray × Option Int := if kind < 1 ∨ kind > 255 then (⟨#[]⟩, some 1) else if body.size > 504 then (⟨#[]⟩, some 10) else (⟨(sealL kind.toNat body.data.toList).toArray⟩, none)
theorem bodyL_len (kind : Nat) (body : List UInt8) (h : body.length ≤ 504) : (bodyL kind body).length = 508 := by
  simp [bodyL, headB]; omega
theorem sealL_len (kind : Nat) (body : List UInt8) (h : body.length ≤ 504) : (sealL kind body).length = 512 := by
  unfold sealL
  rw [List.length_append, bodyL_len kind body h]; rfl
theorem mark_Seal_ev (kind : Int) (body : ByteArray) : Ev (fun k => mark_Seal.f k kind body) (sealS kind body) := by
  have bad : kind < 1 ∨ kind > 255 → Ev (fun k => mark_Seal.j0 k kind body true) (sealS kind body) := fun h => by
    refine Ev.from 1 fun k => ?_
    rw [mark_Seal.j0, if_pos rfl, sealS, if_pos h]
  unfold mark_Seal.f
  by_cases h1 : kind < 1
  · simp only [if_pos h1]; exact bad (.inl h1)
  · simp only [if_neg h1]
    by_cases h2 : kind > 255
    · rw [decide_eq_true h2]; exact bad (.inr h2)
    · rw [decide_eq_false h2]
      unfold sealS
      rw [if_neg (by omega)]
      refine Ev.step (fun k => by rw [mark_Seal.j0, if_neg (by decide)]) ?_
      by_cases h3 : body.size > 504
      · simp only [if_pos (show (body.size : Int) > 504 by omega), if_pos h3]; exact Ev.now _
      · simp only [if_neg (show ¬ (body.size : Int) > 504 by omega), if_neg h3]
        have hs1 : (⟨(headB kind.toNat).toArray⟩ : ByteArray).size = 4 := rfl
        refine Ev.bind (head_ev kind (by omega) (by omega)) ?_
        simp only [if_pos (show (⟨(headB kind.toNat).toArray⟩ : ByteArray).size + body.size ≤ 9223372036854775807 by rw [hs1]; omega)]
        rw [w64 (by omega) (by omega), repeat_zero _ (by omega) (by omega)]
        refine Ev.bind (Ev.now _) ?_
        have hz : (zerosB (504 - (body.size : Int)).toNat).size = 504 - body.size := by rw [zerosB_size]; omega
        have e : (⟨(headB kind.toNat).toArray⟩ : ByteArray) ++ body ++ zerosB (504 - (body.size : Int)).toNat = ⟨(bodyL kind.toNat body.data.toList).toArray⟩ := by
          rw [deq, dapp, dapp]
          show headB kind.toNat ++ body.data.toList ++ List.replicate (504 - (body.size : Int)).toNat 0 = bodyL kind.toNat body.data.toList
          unfold bodyL
          rw [dlen, show (504 - (body.size : Int)).toNat = 504 - body.size by omega]
        have es : (⟨(bodyL kind.toNat body.data.toList).toArray⟩ : ByteArray).size = 508 := by
          rw [← dlen]; exact bodyL_len _ _ (by rw [dlen]; omega)
        simp only [if_pos (show ((⟨(headB kind.toNat).toArray⟩ : ByteArray) ++ body).size + (zerosB (504 - (body.size : Int)).toNat).size ≤ 9223372036854775807 by rw [ByteArray.size_append, hs1, hz]; omega)]
        rw [e]
        refine Ev.bind (sumOf_ev _ (by rw [es]; decide)) ?_
        have e4 : ∀ l : List UInt8, (⟨(sumB l).toArray⟩ : ByteArray).size = 4 := fun l => rfl
        simp only [if_pos (show (⟨(bodyL kind.toNat body.data.toList).toArray⟩ : ByteArray).size + (⟨(sumB (bodyL kind.toNat body.data.toList)).toArray⟩ : ByteArray).size ≤ 9223372036854775807 by rw [es, e4]; decide)]
        have e5 : (⟨(bodyL kind.toNat body.data.toList).toArray⟩ : ByteArray) ++ ⟨(sumB (bodyL kind.toNat body.data.toList)).toArray⟩ = ⟨(sealL kind.toNat body.data.toList).toArray⟩ := by
          rw [deq, dapp]; rfl
        rw [e5]; exact Ev.now _

/-! ### lf03 -/
/-- One bit of the register. -/
def lf (x : Nat) : Nat := x / 2 ^^^ (if x % 2 = 1 then 2197175160 else 0)
def lfs : Nat → Nat → Nat
  | 0, x => x
  | d + 1, x => lfs d (lf x)
theorem lf_xor (x y : Nat) : lf (x ^^^ y) = lf x ^^^ lf y := by
  unfold lf
  rw [Nat.xor_div_two]
  have hm : (x ^^^ y) % 2 = (x % 2 + y % 2) % 2 := by
    have h := Nat.testBit_xor x y 0
    simp only [Nat.testBit_zero] at h
    rcases Nat.mod_two_eq_zero_or_one x with hx | hx <;> rcases Nat.mod_two_eq_zero_or_one y with hy | hy <;> rcases Nat.mod_two_eq_zero_or_one (x ^^^ y) with hz | hz <;> simp_all
  have e : ∀ a b p : Nat, a ^^^ p ^^^ (b ^^^ p) = a ^^^ b := fun a b p => by
    rw [Nat.xor_assoc, ← Nat.xor_assoc p b p, Nat.xor_comm p b, Nat.xor_assoc b p p, Nat.xor_self, Nat.xor_zero]
  have e2 : ∀ a b p : Nat, a ^^^ b ^^^ p = a ^^^ p ^^^ b := fun a b p => by rw [Nat.xor_assoc, Nat.xor_comm b, ← Nat.xor_assoc]
  rcases Nat.mod_two_eq_zero_or_one x with hx | hx <;> rcases Nat.mod_two_eq_zero_or_one y with hy | hy
  · rw [if_neg (by omega), if_neg (by omega), if_neg (by omega), Nat.xor_zero, Nat.xor_zero, Nat.xor_zero]
  · rw [if_pos (by omega), if_neg (by omega), if_pos (by omega), Nat.xor_zero, Nat.xor_assoc]
  · rw [if_pos (by omega), if_pos (by omega), if_neg (by omega), Nat.xor_zero, e2]
  · rw [if_neg (by omega), if_pos (by omega), if_pos (by omega), Nat.xor_zero, e]
theorem lfs_xor : ∀ d x y, lfs d (x ^^^ y) = lfs d x ^^^ lfs d y
  | 0, _, _ => rfl
  | d + 1, x, y => by rw [lfs, lfs, lfs, lf_xor, lfs_xor d]
theorem lf_two (q : Nat) : lf (2 * q) = q := by
  unfold lf
  rw [if_neg (by omega), Nat.xor_zero]; omega
theorem lfs4 (q : Nat) : lfs 4 (16 * q) = q := by
  show lf (lf (lf (lf (16 * q)))) = q
  rw [show 16 * q = 2 * (2 * (2 * (2 * q))) by omega, lf_two, lf_two, lf_two, lf_two]
theorem split16 (x : Nat) : x = (16 * (x / 16)) ^^^ (x % 16) := by
  have h := Nat.shiftLeft_add_eq_or_of_lt (show x % 16 < 2 ^ 4 by omega) (x / 16)
  have hd : (x / 16) <<< 4 &&& (x % 16) = 0 := by
    apply Nat.eq_of_testBit_eq
    intro i
    rw [Nat.testBit_and, Nat.zero_testBit, Nat.testBit_shiftLeft]
    by_cases hi : i ≥ 4
    · have : (x % 16).testBit i = false := Nat.testBit_lt_two_pow (Nat.lt_of_lt_of_le (show x % 16 < 2 ^ 4 by omega) (Nat.pow_le_pow_right (by decide) hi))
      rw [this, Bool.and_false]
    · simp [hi]
  have hx : (x / 16) <<< 4 ^^^ (x % 16) = (x / 16) <<< 4 ||| (x % 16) := by
    apply Nat.eq_of_testBit_eq
    intro i
    have h2 := congrArg (fun n => n.testBit i) hd
    simp only [Nat.testBit_and, Nat.zero_testBit] at h2
    rw [Nat.testBit_xor, Nat.testBit_or]
    cases h3 : ((x / 16) <<< 4).testBit i <;> cases h4 : (x % 16).testBit i <;> simp_all
  rw [Nat.shiftLeft_eq] at h hx
  rw [show 16 * (x / 16) = x / 16 * 2 ^ 4 by omega, hx, ← h]; omega
theorem nib_lfs (x : Nat) : nibStep x = lfs 4 x := by
  have h : ∀ i : Fin 16, lfs 4 i.val = nibs.getD i.val 0 := by decide +kernel
  have h2 : lfs 4 (x % 16) = nibs.getD (x % 16) 0 := h ⟨x % 16, Nat.mod_lt _ (by decide)⟩
  unfold nibStep
  rw [← h2]
  have h3 := congrArg (lfs 4) (split16 x)
  rw [lfs_xor, lfs4] at h3
  exact h3.symm
theorem sum_lfs (r b : Nat) : sumStep r b = lfs 8 (r ^^^ b) := by
  unfold sumStep
  rw [nib_lfs, nib_lfs]; rfl

/-! ### sum03 -/
theorem ref_bit (R c : Nat) (hR : R < 4294967296) (hc : c < 4294967296) : (Int.tmod (Go.bits .xor .u32 (R : Int) (c : Int)) 2 = 1) = ((R ^^^ c) % 2 = 1) := by
  rw [xor_u32 R c hR hc, Int.tmod_eq_emod_of_nonneg (by omega)]
  apply propext
  constructor <;> intro h <;> omega
theorem ref03_inner (s : ByteArray) (i : Nat) (hi : i < s.size) (hs : s.size ≤ 140737488355328) (b : Nat) (hb : bt s (i : Int) = (b : Int)) (hb2 : b < 256) (res : Int) : ∀ (d j R : Nat), j + d = 8 → R < 4294967296 →
    Ev (fun k => posthorseref03_Sum.l0 k s ((lfs d (R ^^^ (b / 2 ^ j)) : Nat) : Int) ((i + 1 : Nat) : Int)) res → Ev (fun k => posthorseref03_Sum.l1 k s (R : Int) (i : Int) (j : Int)) res := by
  have e1 : wrap64 ((i : Int) + 1) = ((i + 1 : Nat) : Int) := by rw [w64 (by omega) (by omega)]; omega
  intro d
  induction d with
  | zero =>
    intro j R hj hR h
    obtain rfl : j = 8 := by omega
    have : b / 2 ^ 8 = 0 := Nat.div_eq_of_lt (by omega)
    rw [this, Nat.xor_zero, lfs] at h
    refine Ev.step (fun k => ?_) h
    rw [posthorseref03_Sum.l1, if_neg (by omega), e1]
  | succ d ih =>
    intro j R hj hR h
    have ej : wrap64 ((j : Int) + 1) = ((j + 1 : Nat) : Int) := by rw [w64 (by omega) (by omega)]; omega
    have eu : IntKind.u64.wrap (j : Int) = (j : Int) := by rw [IntKind.wrap_u64]; omega
    have hsh : shr .u32 ((b : Int) % 4294967296) (j : Int) = ((b / 2 ^ j : Nat) : Int) := by
      unfold shr
      rw [Int.toNat_natCast, show min j (IntKind.bits .u32) = j by show min j 32 = j; omega, show (b : Int) % 4294967296 = (b : Int) by omega, Int.natCast_ediv, Int.natCast_pow]; rfl
    have hc : b / 2 ^ j < 256 := Nat.lt_of_le_of_lt (Nat.div_le_self _ _) hb2
    have hd2 : b / 2 ^ (j + 1) = b / 2 ^ j / 2 := by rw [Nat.div_div_eq_div_mul, Nat.pow_succ]
    have hdiv : (Int.tdiv (R : Int) 2) % 4294967296 = ((R / 2 : Nat) : Int) := by rw [Int.tdiv_eq_ediv_of_nonneg (by omega)]; omega
    have hstep : ∀ R' : Nat, R' < 4294967296 → R' ^^^ (b / 2 ^ (j + 1)) = lf (R ^^^ (b / 2 ^ j)) → Ev (fun k => posthorseref03_Sum.l1 k s (R' : Int) (i : Int) ((j + 1 : Nat) : Int)) res := by
      intro R' hR' he
      refine ih (j + 1) R' (by omega) hR' ?_
      rw [he]; exact h
    by_cases hbit : (R ^^^ (b / 2 ^ j)) % 2 = 1
    · have hx : ((R / 2 ^^^ 2197175160 : Nat)) < 4294967296 := xor_lt32 (by omega) (by decide)
      refine Ev.step (fun k => ?_) (hstep (R / 2 ^^^ 2197175160) hx ?_)
      · rw [posthorseref03_Sum.l1, if_pos (by omega), if_pos (by omega), if_pos (by omega), eu, if_pos (by omega), hb, hsh]
        simp only [ref_bit R _ hR (show b / 2 ^ j < 4294967296 by omega), if_pos hbit, hdiv, ej]
        have := xor_u32 (R / 2) 2197175160 (by omega) (by decide)
        rw [show ((2197175160 : Nat) : Int) = 2197175160 from rfl] at this
        rw [this]
      · unfold lf
        rw [if_pos hbit, Nat.xor_div_two, hd2, Nat.xor_assoc, Nat.xor_comm 2197175160, ← Nat.xor_assoc]
    · refine Ev.step (fun k => ?_) (hstep (R / 2) (by omega) ?_)
      · rw [posthorseref03_Sum.l1, if_pos (by omega), if_pos (by omega), if_pos (by omega), eu, if_pos (by omega), hb, hsh]
        simp only [ref_bit R _ hR (show b / 2 ^ j < 4294967296 by omega), if_neg hbit, hdiv, ej]
      · unfold lf
        rw [if_neg hbit, Nat.xor_div_two, hd2, Nat.xor_zero]
theorem ref03_Sum_loop (s : ByteArray) (hs : s.size ≤ 140737488355328) : ∀ (d i : Nat), i + d = s.size → Ev (fun k => posthorseref03_Sum.l0 k s ((sumReg (s.data.toList.take i) : Nat) : Int) (i : Int)) (sumOfL s.data.toList : Int) := by
  intro d
  induction d with
  | zero =>
    intro i hi
    refine Ev.from 1 fun k => ?_
    have hr := sumReg_lt s.data.toList
    rw [posthorseref03_Sum.l0, if_neg (by omega), List.take_of_length_le (by rw [dlen]; omega)]
    unfold sumOfL
    congr 1
    omega
  | succ d ih =>
    intro i hi
    have hil : i < s.data.toList.length := by rw [dlen]; omega
    have hr := sumReg_lt (s.data.toList.take i)
    refine Ev.step (f := fun k => posthorseref03_Sum.l1 k s ((sumReg (s.data.toList.take i) : Nat) : Int) (i : Int) ((0 : Nat) : Int)) (fun k => by rw [posthorseref03_Sum.l0, if_pos (by omega)]; rfl) ?_
    refine ref03_inner s i (by omega) hs (s.data.toList[i]).toNat (bt_at_nat s i hil) (s.data.toList[i]).toNat_lt _ 8 0 _ (by omega) hr ?_
    have e : lfs 8 (sumReg (s.data.toList.take i) ^^^ ((s.data.toList[i]).toNat / 2 ^ 0)) = sumReg (s.data.toList.take (i + 1)) := by
      rw [Nat.pow_zero, Nat.div_one, ← sum_lfs]
      unfold sumReg
      rw [List.take_succ_eq_append_getElem hil, List.foldl_append]; rfl
    rw [e]
    exact ih (i + 1) (by omega)
theorem ref03_Sum_ev (s : ByteArray) (hs : s.size ≤ 140737488355328) : Ev (fun k => posthorseref03_Sum.f k s) (sumOfL s.data.toList : Int) := by
  unfold posthorseref03_Sum.f
  exact ref03_Sum_loop s hs s.size 0 (by omega)

/-! ### ref01put -/
theorem leB_snoc : ∀ (i m : Nat), leB (i + 1) m = leB i m ++ [UInt8.ofNat (m / 256 ^ i % 256)]
  | 0, m => by simp [leB]
  | i + 1, m => by
    have h := leB_snoc i (m / 256)
    show UInt8.ofNat (m % 256) :: leB (i + 1) (m / 256) = (UInt8.ofNat (m % 256) :: leB i (m / 256)) ++ [UInt8.ofNat (m / 256 ^ (i + 1) % 256)]
    rw [h, Nat.div_div_eq_div_mul, Nat.pow_succ']; rfl
theorem ref01_Put_loop (m size : Nat) (hs : size ≤ 7) : ∀ (d i : Nat), i + d = size → (m : Int) ≤ 9223372036854775807 →
    Ev (fun k => posthorseref01_Put.l0 k ((m / 256 ^ i : Nat) : Int) (size : Int) ⟨(leB i m).toArray⟩ (i : Int)) (if m < 256 ^ size then ⟨(leB size m).toArray⟩ else ⟨#[]⟩) := by
  intro d
  induction d with
  | zero =>
    intro i hi hm
    obtain rfl : i = size := by omega
    refine Ev.from 1 fun k => ?_
    rw [posthorseref01_Put.l0, if_neg (by omega)]
    by_cases h : m < 256 ^ i
    · rw [if_pos h, Nat.div_eq_of_lt h, if_neg (by decide)]
    · have hp : 0 < m / 256 ^ i := Nat.div_pos (by omega) (Nat.pow_pos (by decide))
      rw [if_neg h, if_pos (by omega)]
  | succ d ih =>
    intro i hi hm
    have hle : m / 256 ^ i ≤ m := Nat.div_le_self _ _
    have hq1 : m / 256 ^ (i + 1) = m / 256 ^ i / 256 := by rw [Nat.div_div_eq_div_mul, ← Nat.pow_succ]
    have hsn := leB_snoc i m
    have ih' := ih (i + 1) (by omega) hm
    rw [hq1] at ih'
    generalize m / 256 ^ i = q at hle hsn ih' ⊢
    have e1 : wrap64 ((i : Int) + 1) = ((i + 1 : Nat) : Int) := by rw [w64 (by omega) (by omega)]; omega
    have e2 : wrap64 (Int.tdiv (q : Int) 256) = ((q / 256 : Nat) : Int) := by
      rw [Int.tdiv_eq_ediv_of_nonneg (by omega), w64 (by omega) (by omega)]; omega
    have e3 : (⟨(leB i m).toArray⟩ : ByteArray) ++ (strOfNums [(Int.tmod (q : Int) 256) % 256]) = ⟨(leB (i + 1) m).toArray⟩ := by
      rw [deq, dapp, hsn]
      have h1 : ((Int.tmod (q : Int) 256) % 256).toNat = q % 256 := by
        rw [Int.tmod_eq_emod_of_nonneg (by omega)]; omega
      simp only [strOfNums, List.map_cons, List.map_nil, h1]
    have e4 : (⟨(leB i m).toArray⟩ : ByteArray).size = i := by rw [← dlen]; simp [leB_len]
    have e5 : (strOfNums [(Int.tmod (q : Int) 256) % 256]).size = 1 := by simp [strOfNums, ByteArray.size]
    refine Ev.step (fun k => ?_) ih'
    rw [posthorseref01_Put.l0, if_pos (by omega)]
    simp only [Option.bind_some, e1, e2, e3, e4, e5]
    rw [if_pos (by omega)]
theorem ref01_Put_ev (n size : Int) (hn : (Lit.int .i64 n).wf = true) : Ev (fun k => posthorseref01_Put.f k n size) (lePutS n size) := by
  have bn := i64b hn
  have bad : ¬ (1 ≤ size ∧ size ≤ 7 ∧ 0 ≤ n ∧ n < 256 ^ size.toNat) → Ev (fun k => posthorseref01_Put.j0 k n size true) (lePutS n size) := by
    intro h
    refine Ev.from 1 fun k => ?_
    rw [posthorseref01_Put.j0, if_pos rfl, lePutS, if_neg h]
  unfold posthorseref01_Put.f
  by_cases h1 : size < 1
  · simp only [if_pos h1]; exact bad (by omega)
  · by_cases h2 : size > 7
    · simp only [if_neg h1, if_pos h2]; exact bad (by omega)
    · simp only [if_neg h1, if_neg h2]
      by_cases h3 : n < 0
      · rw [decide_eq_true h3]; exact bad (by omega)
      · rw [decide_eq_false h3]
        obtain ⟨s, rfl⟩ := Int.eq_ofNat_of_zero_le (show 0 ≤ size by omega)
        obtain ⟨m, rfl⟩ := Int.eq_ofNat_of_zero_le (show 0 ≤ n by omega)
        have := ref01_Put_loop m s (by omega) s 0 (by omega) (by omega)
        rw [Nat.pow_zero, Nat.div_one] at this
        have e5 : lePutS (m : Int) (s : Int) = (if m < 256 ^ s then ⟨(leB s m).toArray⟩ else ⟨#[]⟩) := by
          unfold lePutS
          rw [Int.toNat_natCast, Int.toNat_natCast]
          have hc : ((256 : Int) ^ s) = ((256 ^ s : Nat) : Int) := by rw [Int.natCast_pow]; rfl
          by_cases hm : m < 256 ^ s
          · rw [if_pos hm, if_pos ⟨by omega, by omega, by omega, by rw [hc]; exact Int.ofNat_lt.2 hm⟩]
          · rw [if_neg hm, if_neg (fun ⟨_, _, _, h⟩ => hm (by rw [hc] at h; exact Int.ofNat_lt.1 h))]
        rw [e5]
        exact Ev.step (fun k => by rw [posthorseref01_Put.j0, if_neg (by decide)]; rfl) this

/-! ### seal03 -/
/-- What the document's Seal answers. -/
def refSeal (kind : Int) (body : ByteArray) : ByteArray × Int := if kind < 1 ∨ kind > 255 then (⟨#[]⟩, 1) else if body.size > 504 then (⟨#[]⟩, 10) else (⟨(sealL kind.toNat body.data.toList).toArray⟩, 0)
theorem ref_Seal_loop (kind : Nat) (body : List UInt8) (hb : body.length ≤ 504) : ∀ (d i : Nat), i + d = 504 - body.length → Ev (fun k => posthorseref03_Seal.l0 k ⟨(headB kind ++ body ++ List.replicate i 0).toArray⟩) (⟨(sealL kind body).toArray⟩, 0) := by
  have sz : ∀ i, (⟨(headB kind ++ body ++ List.replicate i 0).toArray⟩ : ByteArray).size = 4 + body.length + i := fun i => by
    rw [← dlen]
    show (headB kind ++ body ++ List.replicate i 0).length = _
    simp [headB]; omega
  intro d
  induction d with
  | zero =>
    intro i hi
    obtain rfl : i = 504 - body.length := by omega
    have e : (headB kind ++ body ++ List.replicate (504 - body.length) 0) = bodyL kind body := rfl
    have s0 := sz (504 - body.length)
    rw [e] at s0 ⊢
    have hs := sumOfL_lt (bodyL kind body)
    refine Ev.step (f := fun k => (posthorseref03_Sum.f k ⟨(bodyL kind body).toArray⟩).bind fun t130 => ((posthorseref01_Put.f k (wrap64 t130) 4).bind fun t131 => if (⟨(bodyL kind body).toArray⟩ : ByteArray).size + t131.size ≤ 9223372036854775807 then some ((⟨(bodyL kind body).toArray⟩ : ByteArray) ++ t131, 0) else none)) (fun k => by rw [posthorseref03_Seal.l0_s, if_neg (by omega)]) ?_
    refine Ev.bind (ref03_Sum_ev _ (by omega)) ?_
    rw [show (⟨(bodyL kind body).toArray⟩ : ByteArray).data.toList = bodyL kind body from rfl, w64 (by omega) (by omega)]
    refine Ev.bind (ref01_Put_ev _ 4 (wf_of (by omega) (by omega))) ?_
    have e2 : lePutS (sumOfL (bodyL kind body) : Int) 4 = ⟨(sumB (bodyL kind body)).toArray⟩ := by
      unfold lePutS sumB
      rw [if_pos ⟨by omega, by omega, by omega, by show (sumOfL (bodyL kind body) : Int) < 256 ^ 4; omega⟩]; rfl
    have e4 : (⟨(sumB (bodyL kind body)).toArray⟩ : ByteArray).size = 4 := rfl
    rw [e2]
    refine Ev.from 0 fun k => ?_
    rw [if_pos (by rw [e4]; omega)]
    have e5 : (⟨(bodyL kind body).toArray⟩ : ByteArray) ++ ⟨(sumB (bodyL kind body)).toArray⟩ = ⟨(sealL kind body).toArray⟩ := by
      rw [deq, dapp]; rfl
    rw [e5]
  | succ d ih =>
    intro i hi
    have h := ih (i + 1) (by omega)
    refine Ev.step (fun k => ?_) h
    have e1 : (⟨#[0]⟩ : ByteArray).size = 1 := rfl
    rw [posthorseref03_Seal.l0_s, if_pos (by rw [sz]; omega), if_pos (by rw [sz, e1]; omega)]
    have e : (⟨(headB kind ++ body ++ List.replicate i 0).toArray⟩ : ByteArray) ++ ⟨#[0]⟩ = ⟨(headB kind ++ body ++ List.replicate (i + 1) 0).toArray⟩ := by
      rw [deq, dapp]
      show (headB kind ++ body ++ List.replicate i 0) ++ [0] = headB kind ++ body ++ List.replicate (i + 1) 0
      rw [List.append_assoc, ← List.replicate_succ']
    rw [e]
theorem ref_Seal_ev (kind : Int) (body : ByteArray) : Ev (fun k => posthorseref03_Seal.f k kind body) (refSeal kind body) := by
  have bad : kind < 1 ∨ kind > 255 → Ev (fun k => posthorseref03_Seal.j0 k kind body true) (refSeal kind body) := fun h => by
    refine Ev.from 1 fun k => ?_
    rw [posthorseref03_Seal.j0, if_pos rfl, refSeal, if_pos h]
  unfold posthorseref03_Seal.f
  by_cases h1 : kind < 1
  · simp only [if_pos h1]; exact bad (.inl h1)
  · simp only [if_neg h1]
    by_cases h2 : kind > 255
    · rw [decide_eq_true h2]; exact bad (.inr h2)
    · rw [decide_eq_false h2]
      unfold refSeal
      rw [if_neg (by omega)]
      refine Ev.step (fun k => by rw [posthorseref03_Seal.j0, if_neg (by decide)]) ?_
      by_cases h3 : body.size > 504
      · simp only [if_pos (show (body.size : Int) > 504 by omega), if_pos h3]; exact Ev.now _
      · simp only [if_neg (show ¬ (body.size : Int) > 504 by omega), if_neg h3]
        refine Ev.bind (Ev.now _) ?_
        have es : (strOfNums [kind % 256, 0]).size = 2 := rfl
        have e : (⟨#[80, 72]⟩ : ByteArray) ++ strOfNums [kind % 256, 0] ++ body = ⟨(headB kind.toNat ++ body.data.toList ++ List.replicate 0 0).toArray⟩ := by
          rw [deq, dapp, dapp]
          show [80, 72] ++ [UInt8.ofNat (kind % 256).toNat, UInt8.ofNat (0 : Int).toNat] ++ body.data.toList = headB kind.toNat ++ body.data.toList ++ []
          unfold headB
          rw [show (kind % 256).toNat = kind.toNat % 256 by omega]; simp
        simp only [if_pos (show 2 + (strOfNums [kind % 256, 0]).size ≤ 9223372036854775807 by rw [es]; decide), if_pos (show ((⟨#[80, 72]⟩ : ByteArray) ++ strOfNums [kind % 256, 0]).size + body.size ≤ 9223372036854775807 by rw [ByteArray.size_append, es]; show 2 + 2 + body.size ≤ _; omega)]
        rw [e]
        have := ref_Seal_loop kind.toNat body.data.toList (by rw [dlen]; omega) (504 - body.data.toList.length) 0 (by omega)
        exact this

/-! ### leget -/
theorem or_i64 (a b : Nat) (ha : a < 9223372036854775808) (hb : b < 9223372036854775808) : Go.bits .or .i64 (a : Int) (b : Int) = ((a ||| b : Nat) : Int) := by
  have hx : a ||| b < 2 ^ 63 := Nat.or_lt_two_pow (by omega) (by omega)
  have h1 : (BitVec.ofInt 64 (a : Int)).toNat = a := by
    rw [BitVec.ofInt_natCast, BitVec.toNat_ofNat]; exact Nat.mod_eq_of_lt (by omega)
  have h2 : (BitVec.ofInt 64 (b : Int)).toNat = b := by
    rw [BitVec.ofInt_natCast, BitVec.toNat_ofNat]; exact Nat.mod_eq_of_lt (by omega)
  show IntKind.i64.wrap ((BitVec.ofInt 64 (a : Int) ||| BitVec.ofInt 64 (b : Int)).toNat : Int) = _
  rw [BitVec.toNat_or, h1, h2]
  rw [IntKind.wrap_i64]
  omega
theorem or_low (n b : Nat) (hn : n < 281474976710656) (hb : b < 256) : Go.bits .or .i64 (wrap64 ((n : Int) * 256)) (wrap64 (b : Int)) = ((b + 256 * n : Nat) : Int) := by
  have e1 : wrap64 ((n : Int) * 256) = ((n * 256 : Nat) : Int) := by rw [w64 (by omega) (by omega)]; omega
  rw [e1, w64 (by omega) (by omega), or_i64 _ _ (by omega) (by omega)]
  have h := Nat.shiftLeft_add_eq_or_of_lt (show b < 2 ^ 8 by omega) n
  rw [Nat.shiftLeft_eq] at h
  have h' : n * 256 ||| b = n * 256 + b := h.symm
  rw [h']; omega
theorem bt_get (s : ByteArray) (i : Nat) : bt s (i : Int) = ((s.data.toList.getD i 0).toNat : Int) := by
  unfold bt
  rw [Int.toNat_natCast]
  split
  · rename_i h
    have h' : i < s.data.toList.length := by rw [dlen]; exact h
    rw [List.getD_eq_getElem?_getD, List.getElem?_eq_getElem h', Option.getD_some, Array.getElem_toList]
    rfl
  · rename_i h
    have h' : s.data.toList.length ≤ i := by rw [dlen]; omega
    rw [List.getD_eq_getElem?_getD, List.getElem?_eq_none h']
    rfl
/-- What Get answers. -/
def leGetS (s : ByteArray) : Int := if s.size ≤ 7 then (unB s.data.toList : Int) else 0
theorem le_Get_loop (s : ByteArray) (hs : s.size ≤ 7) : ∀ (i : Nat), i ≤ s.size → Ev (fun k => le_Get.l0 k s (unB (s.data.toList.drop i) : Int) ((i : Int) - 1)) (unB s.data.toList : Int) := by
  intro i
  induction i with
  | zero =>
    intro _
    refine Ev.from 1 fun k => ?_
    rw [le_Get.l0, if_neg (by omega), List.drop_zero]
  | succ i ih =>
    intro hi
    have hil : i < s.data.toList.length := by rw [dlen]; omega
    have e1 : ((i + 1 : Nat) : Int) - 1 = (i : Int) := by omega
    have e2 : wrap64 ((i : Int) - 1) = (i : Int) - 1 := w64 (by omega) (by omega)
    have hb := (s.data.toList[i]).toNat_lt
    have hlt := unB_lt (s.data.toList.drop (i + 1))
    rw [List.length_drop, dlen] at hlt
    have hp : 256 ^ (s.size - (i + 1)) ≤ 256 ^ 6 := Nat.pow_le_pow_right (by decide) (by omega)
    have e3 : bt s (i : Int) = ((s.data.toList[i]).toNat : Int) := by
      rw [bt_get, List.getD_eq_getElem?_getD, List.getElem?_eq_getElem hil]; rfl
    have e4 : unB (s.data.toList.drop i) = (s.data.toList[i]).toNat + 256 * unB (s.data.toList.drop (i + 1)) := by
      rw [List.drop_eq_getElem_cons hil, unB]
    refine Ev.step (fun k => ?_) (ih (by omega))
    rw [e1, le_Get.l0, if_pos (by omega), if_pos (by omega), if_pos (by omega), e2, e3, e4]
    rw [or_low _ _ (by omega) (by omega)]
theorem le_Get_ev (s : ByteArray) : Ev (fun k => le_Get.f k s) (leGetS s) := by
  unfold le_Get.f leGetS
  by_cases h : s.size ≤ 7
  · simp only [if_neg (show ¬ (s.size : Int) > 7 by omega), if_pos h]
    rw [w64 (by omega) (by omega)]
    have := le_Get_loop s h s.size (Nat.le_refl _)
    rw [List.drop_of_length_le (by rw [dlen]; omega)] at this
    exact this
  · simp only [if_pos (show (s.size : Int) > 7 by omega), if_neg h]; exact Ev.now _

/-! ### lein -/
theorem bex (s : ByteArray) (a b : Nat) : (s.extract a b).data.toList = (s.data.toList.take b).drop a := by
  rw [ByteArray.data_extract, Array.toList_extract, List.extract_eq_drop_take', List.drop_take]
theorem drop_nil_iff (l : List UInt8) : l.dropWhile (· == 0) = [] ↔ ∀ b ∈ l, b = 0 := by
  induction l with
  | nil => simp
  | cons a l ih =>
    by_cases h : a = 0
    · subst h
      rw [List.dropWhile_cons_of_pos (by decide), ih]
      simp
    · rw [List.dropWhile_cons_of_neg (by simpa using h)]
      simp [h]
theorem trim_nil_iff (l : List UInt8) : Lib.trimB l 0 = [] ↔ ∀ b ∈ l, b = 0 := by
  unfold Lib.trimB Lib.trimLeftB Lib.trimRightB
  rw [drop_nil_iff]
  constructor
  · intro h
    have h1 : (l.reverse.dropWhile (· == 0)) = [] := by
      cases hx : l.reverse.dropWhile (· == 0) with
      | nil => rfl
      | cons a r =>
        have ha : a = 0 := h a (by rw [hx]; simp)
        have h2 : ¬ ((a == 0) = true) := by
          have h3 := List.head?_dropWhile_not (p := fun b : UInt8 => b == 0) (l := l.reverse)
          rw [hx] at h3
          simpa using h3
        exact absurd (by simp [ha]) h2
    have h4 := (drop_nil_iff l.reverse).1 h1
    intro b hb
    exact h4 b (by simpa using hb)
  · intro h b hb
    have h1 : l.reverse.dropWhile (· == 0) = [] := (drop_nil_iff l.reverse).2 (fun b hb => h b (by simpa using hb))
    rw [h1] at hb
    simp at hb
/-- What Text answers: the text, the rest, the error. -/
def inText (s : ByteArray) (e : Option Int) (n : Int) : ByteArray × ByteArray × Option Int :=
  if e.isNone = true then (if n < 0 then (⟨#[]⟩, s, some 1) else if n > (s.size : Int) then (⟨#[]⟩, s, some 4) else (s.extract 0 n.toNat, s.extract n.toNat s.size, none)) else (⟨#[]⟩, s, some (e.getD 0))
theorem in_fail (s : ByteArray) (e : Option Int) (n : Int) : le_In_fail.f s e n = some (s, if e.isNone = true then some n else some (e.getD 0)) := by
  unfold le_In_fail.f
  split <;> rfl
theorem in_text (s : ByteArray) (e : Option Int) (n : Int) : le_In_Text.f s e n = some (inText s e n) := by
  unfold le_In_Text.f inText
  simp only [in_fail, Option.bind_some]
  cases e with
  | none =>
    simp only [Option.isNone_none, if_true, Option.isNone_some, Bool.false_eq_true, if_false]
    by_cases h1 : n < 0
    · rw [if_pos h1, if_pos h1]; rfl
    · rw [if_neg h1, if_neg h1]
      by_cases h2 : n > (s.size : Int)
      · rw [if_pos h2, if_pos h2]; rfl
      · rw [if_neg h2, if_neg h2, if_pos (by omega), if_pos (by omega)]
  | some v =>
    simp only [Option.isNone_some, Bool.false_eq_true, if_false]
    split
    · rfl
    · split <;> rfl
/-- What Num leaves of the error ahead of the text. -/
def inNumE (e : Option Int) (n : Int) : Option Int := if n < 1 ∨ n > 7 then (if e.isNone = true then some 1 else some (e.getD 0)) else e
/-- What Num answers. -/
def inNum (s : ByteArray) (e : Option Int) (n : Int) : Int × ByteArray × Option Int := (leGetS (inText s (inNumE e n) n).1, (inText s (inNumE e n) n).2)
theorem in_num (s : ByteArray) (e : Option Int) (n : Int) : Ev (fun k => le_In_Num.f k s e n) (inNum s e n) := by
  have bad : n < 1 ∨ n > 7 → Ev (fun k => le_In_Num.j0 k n true s e) (inNum s e n) := fun h => by
    refine Ev.step (fun k => by rw [le_In_Num.j0, if_pos rfl, in_fail, Option.bind_some]) ?_
    unfold inNum inNumE
    rw [if_pos h]
    simp only [in_text, Option.bind_some]
    exact Ev.bind (le_Get_ev _) (Ev.now _)
  unfold le_In_Num.f
  by_cases h1 : n < 1
  · simp only [if_pos h1]; exact bad (.inl h1)
  · simp only [if_neg h1]
    by_cases h2 : n > 7
    · rw [decide_eq_true h2]; exact bad (.inr h2)
    · rw [decide_eq_false h2]
      refine Ev.step (fun k => by rw [le_In_Num.j0, if_neg (by decide)]) ?_
      unfold inNum inNumE
      rw [if_neg (by omega)]
      simp only [in_text, Option.bind_some]
      exact Ev.bind (le_Get_ev _) (Ev.now _)
/-- What Noughts leaves. -/
def inNoughts (s : ByteArray) (e : Option Int) (n : Int) : ByteArray × Option Int :=
  ((inText s e n).2.1, if (inText s e n).1.data.toList.all (· == 0) = true then (inText s e n).2.2 else (if (inText s e n).2.2.isNone = true then some 4 else some ((inText s e n).2.2.getD 0)))
theorem in_text_size (s : ByteArray) (e : Option Int) (n : Int) : (inText s e n).1.size ≤ s.size := by
  unfold inText
  split
  · split
    · exact Nat.zero_le _
    · split
      · exact Nat.zero_le _
      · show (s.extract 0 n.toNat).size ≤ s.size
        rw [ByteArray.size_extract]; omega
  · exact Nat.zero_le _
theorem in_noughts (s : ByteArray) (e : Option Int) (n : Int) (hs : s.size ≤ 9223372036854775807) : le_In_Noughts.f s e n = some (inNoughts s e n) := by
  unfold le_In_Noughts.f inNoughts
  rw [in_text, Option.bind_some]
  have h1 := in_text_size s e n
  unfold strings_Trim.f
  rw [if_pos ⟨rfl, by omega⟩, Option.bind_some]
  have h2 : (ByteArray.toList ⟨(Lib.trimB (inText s e n).1.data.toList 0).toArray⟩) = Lib.trimB (inText s e n).1.data.toList 0 := by rw [dl]
  rw [h2]
  by_cases h : (inText s e n).1.data.toList.all (· == 0) = true
  · have h3 : Lib.trimB (inText s e n).1.data.toList 0 = [] := (trim_nil_iff _).2 (fun b hb => by have := List.all_eq_true.1 h b hb; simpa using this)
    rw [if_pos h3, if_pos h]
  · have h3 : ¬ Lib.trimB (inText s e n).1.data.toList 0 = [] := fun h4 => h (List.all_eq_true.2 (fun b hb => by simpa using (trim_nil_iff _).1 h4 b hb))
    rw [if_neg h3, if_neg h, in_fail]; rfl
/-- What End answers. -/
def inEnd (s : ByteArray) (e : Option Int) : Option Int := if e.isNone = true then (if s.data.toList = [] then none else some 10) else some (e.getD 0)
theorem in_end (s : ByteArray) (e : Option Int) : ∃ r, le_In_End.f s e = some (inEnd s e, r) := by
  unfold le_In_End.f inEnd
  rw [dl]
  split
  · split <;> exact ⟨_, rfl⟩
  · exact ⟨_, rfl⟩

/-! ### iput08 -/
def flatI (xs : List EX) : List UInt8 := xs.flatMap fun e => leB 2 e.f0.toNat ++ leB 2 e.f1.toNat
/-- An inode's bytes. -/
def putI (v : Int) (xs : List EX) : List UInt8 := (leB 6 v.toNat ++ leB 1 xs.length) ++ flatI xs
def bB (sz n : Nat) : ByteArray := ⟨(leB sz n).toArray⟩
theorem bB_size (sz n : Nat) : (bB sz n).size = sz := by rw [← dlen]; show ((leB sz n).toArray).toList.length = sz; simp [leB_len]
theorem bB_list (sz n : Nat) : (bB sz n).data.toList = leB sz n := rfl
theorem flatI_len (xs : List EX) : (flatI xs).length = 4 * xs.length := by
  induction xs with
  | nil => rfl
  | cons e xs ih =>
    show ((leB 2 e.f0.toNat ++ leB 2 e.f1.toNat) ++ flatI xs).length = _
    rw [List.length_append, List.length_append, leB_len, leB_len, ih, List.length_cons]; omega
theorem putI_len (v : Int) (xs : List EX) : (putI v xs).length = 7 + 4 * xs.length := by
  unfold putI
  rw [List.length_append, List.length_append, leB_len, leB_len, flatI_len]
theorem lePutS_in (n : Int) (sz : Nat) (m : Int) (hm : (256 : Int) ^ sz = m) (h1 : 1 ≤ sz) (h7 : sz ≤ 7) (h0 : 0 ≤ n) (hn : n < m) : lePutS n (sz : Int) = bB sz n.toNat := by
  unfold lePutS
  rw [if_pos ⟨by omega, by omega, h0, by rw [Int.toNat_natCast, hm]; exact hn⟩, Int.toNat_natCast]; rfl
theorem put6 (n : Int) (h0 : 0 ≤ n) (hn : n < 281474976710656) : Ev (fun k => le_Put.f k n 6) (bB 6 n.toNat) ∧ Ev (fun k => posthorseref01_Put.f k n 6) (bB 6 n.toNat) := by
  have e := lePutS_in n 6 281474976710656 (by decide) (by decide) (by decide) h0 hn
  have w := wf_of (n := n) (by omega) (by omega)
  exact ⟨e ▸ le_Put_ev n 6 w, e ▸ ref01_Put_ev n 6 w⟩
theorem put1 (n : Int) (h0 : 0 ≤ n) (hn : n < 256) : Ev (fun k => le_Put.f k n 1) (bB 1 n.toNat) ∧ Ev (fun k => posthorseref01_Put.f k n 1) (bB 1 n.toNat) := by
  have e := lePutS_in n 1 256 (by decide) (by decide) (by decide) h0 hn
  have w := wf_of (n := n) (by omega) (by omega)
  exact ⟨e ▸ le_Put_ev n 1 w, e ▸ ref01_Put_ev n 1 w⟩
theorem put2 (n : Int) (h0 : 0 ≤ n) (hn : n < 65536) : Ev (fun k => le_Put.f k n 2) (bB 2 n.toNat) ∧ Ev (fun k => posthorseref01_Put.f k n 2) (bB 2 n.toNat) := by
  have e := lePutS_in n 2 65536 (by decide) (by decide) (by decide) h0 hn
  have w := wf_of (n := n) (by omega) (by omega)
  exact ⟨e ▸ le_Put_ev n 2 w, e ▸ ref01_Put_ev n 2 w⟩
theorem spec_th (s : Int) : ∀ (xs pre : List EX), specR s pre xs = true → ∀ e ∈ xs, thS s e
  | [], _, _ => fun e he => by cases he
  | x :: xs, pre, h => fun e he => by
    rw [specR, Bool.and_eq_true, Bool.and_eq_true] at h
    rcases List.mem_cons.1 he with rfl | h1
    · exact of_decide_eq_true h.1
    · exact spec_th s xs _ h.2.2 e h1
theorem right_facts {v s : Int} {xs : List EX} (h : rightB v xs s = true) : 0 ≤ v ∧ v ≤ 281474976710655 ∧ xs.length ≤ 36 ∧ (∀ e ∈ xs, thX e) ∧ s ≤ 2048 ∧ 1 ≤ s ∧ specR s [] xs = true := by
  unfold rightB at h
  split at h
  · cases h
  · rename_i hc
    exact ⟨by omega, by omega, by omega, fun e he => thS_up (spec_th s xs [] h e he) (by omega), by omega, by omega, h⟩
theorem iput_loop : ∀ (xs : List EX) (acc : ByteArray), (∀ e ∈ xs, thX e) → acc.size + 4 * xs.length ≤ 504 → Ev (fun k => inode_Put.l0 k xs acc) ⟨(acc.data.toList ++ flatI xs).toArray⟩
  | [], acc, _, _ => by
    have : (⟨(acc.data.toList ++ flatI []).toArray⟩ : ByteArray) = acc := by rw [deq]; simp [flatI]
    rw [this]
    exact Ev.now _
  | e :: xs, acc, h, hl => by
    obtain ⟨a1, a2, a3, a4⟩ := h e (by simp)
    rw [List.length_cons] at hl
    have ih := iput_loop xs ((acc ++ bB 2 e.f0.toNat) ++ bB 2 e.f1.toNat) (fun y hy => h y (by simp [hy])) (by rw [ByteArray.size_append, ByteArray.size_append, bB_size, bB_size]; omega)
    have er : (⟨(acc.data.toList ++ flatI (e :: xs)).toArray⟩ : ByteArray) = ⟨(((acc ++ bB 2 e.f0.toNat) ++ bB 2 e.f1.toNat).data.toList ++ flatI xs).toArray⟩ := by
      rw [deq, dapp, dapp, bB_list, bB_list]
      show acc.data.toList ++ ((leB 2 e.f0.toNat ++ leB 2 e.f1.toNat) ++ flatI xs) = _
      simp only [List.append_assoc]
    rw [er]
    refine Ev.congr (f := fun k => (le_Put.f k e.f0 2).bind fun s => (le_Put.f k e.f1 2).bind fun t => if s.size = 2 ∧ t.size = 2 ∧ acc.size ≤ 1000 then inode_Put.l0 k xs ((acc ++ s) ++ t) else none) (fun k => by rw [inode_Put.l0]) ?_
    refine Ev.bind (put2 e.f0 a1 (by omega)).1 (Ev.bind (put2 e.f1 (by omega) (by omega)).1 ?_)
    simp only [if_pos (show (bB 2 e.f0.toNat).size = 2 ∧ (bB 2 e.f1.toNat).size = 2 ∧ acc.size ≤ 1000 from ⟨bB_size _ _, bB_size _ _, by omega⟩)]
    exact ih
theorem sealS6 (l : List UInt8) (h : l.length ≤ 504) : sealS 6 ⟨l.toArray⟩ = (⟨(sealL 6 l).toArray⟩, none) ∧ refSeal 6 ⟨l.toArray⟩ = (⟨(sealL 6 l).toArray⟩, 0) := by
  have hs : (⟨l.toArray⟩ : ByteArray).size = l.length := by rw [← dlen]
  unfold sealS refSeal
  rw [if_neg (by decide), if_neg (by omega), if_neg (by decide), if_neg (by omega)]
  exact ⟨rfl, rfl⟩
theorem head7 (v : Int) (xs : List EX) : (bB 6 v.toNat ++ bB 1 xs.length).data.toList ++ flatI xs = putI v xs := by
  rw [dapp]; rfl
/-- Put, of the program. -/
theorem iput_prog (v : Int) (xs : List EX) (hl : xs.length ≤ 1000) : Ev (fun k => inode_Put.f k v xs) (if rightB v xs 2048 = true then (⟨(sealL 6 (putI v xs)).toArray⟩, none) else (⟨#[]⟩, some 1)) := by
  unfold inode_Put.f
  simp only [right_all, Option.bind_some]
  by_cases hr : rightB v xs 2048 = true
  case neg =>
    simp only [if_neg hr]
    exact Ev.now _
  obtain ⟨v0, v1, h36, hth, _⟩ := right_facts hr
  have hpl := putI_len v xs
  obtain ⟨p1, p2⟩ := put6 v v0 (by omega)
  obtain ⟨q1, q2⟩ := put1 (xs.length : Int) (by omega) (by omega)
  rw [Int.toNat_natCast] at q1 q2
  obtain ⟨s1, s2⟩ := sealS6 (putI v xs) (by omega)
  have hsz : (bB 6 v.toNat ++ bB 1 xs.length).size = 7 := by rw [ByteArray.size_append, bB_size, bB_size]
  have hb : (⟨(putI v xs).toArray⟩ : ByteArray).size ≤ 1000 := by rw [← dlen]; show (putI v xs).length ≤ 1000; omega
  simp only [if_pos hr]
  refine Ev.bind p1 (Ev.bind q1 ?_)
  simp only [if_pos (show (bB 6 v.toNat).size = 6 ∧ (bB 1 xs.length).size = 1 from ⟨bB_size _ _, bB_size _ _⟩)]
  have hlp := iput_loop xs (bB 6 v.toNat ++ bB 1 xs.length) hth (by rw [hsz]; omega)
  rw [head7] at hlp
  refine Ev.bind hlp ?_
  simp only [if_pos hb]
  exact s1 ▸ mark_Seal_ev 6 _
/-! ### super09 -/
/-- May there be such a layout? -/
def rightL (s j : Int) : Bool := decide (8 ≤ j ∧ j ≤ 512 ∧ s ≤ 2048 ∧ 7 + j ≤ s)
/-- A layout's bytes. -/
def layB (s j : Int) : List UInt8 := leB 2 s.toNat ++ leB 2 j.toNat
/-- What Put answers. -/
def supPut (s j : Int) : ByteArray × Option Int := if rightL s j = true then (⟨(sealL 1 (layB s j)).toArray⟩, none) else (⟨#[]⟩, some 1)
theorem right_range {s j : Int} (h : rightL s j = true) : 8 ≤ j ∧ j ≤ 512 ∧ s ≤ 2048 ∧ 7 + j ≤ s := by simpa [rightL] using h
theorem lay_put (s j : Int) (h : rightL s j = true) : lePutS s 2 ++ lePutS j 2 = ⟨(layB s j).toArray⟩ := by
  obtain ⟨h1, h2, h3, h4⟩ := right_range h
  unfold lePutS layB
  rw [if_pos ⟨by omega, by omega, by omega, by show s < 256 ^ 2; omega⟩, if_pos ⟨by omega, by omega, by omega, by show j < 256 ^ 2; omega⟩]
  rw [deq, dapp]; rfl
theorem lay_size (s j : Int) : (⟨(layB s j).toArray⟩ : ByteArray).size = 4 := by
  rw [← dlen]
  show (layB s j).length = 4
  unfold layB; rw [List.length_append, leB_len, leB_len]
theorem put_size (n : Int) : (lePutS n 2).size ≤ 2 := by
  unfold lePutS
  split
  · rw [← dlen]; simp [leB_len]
  · rw [← dlen]; simp
/-! ### markopen -/
/-- What Open answers. -/
def openS (kind : Int) (l : List UInt8) : ByteArray × Option Int := if l.length = 512 ∧ 1 ≤ kind ∧ kind ≤ 255 ∧ l.take 4 = headB kind.toNat then (if l.drop 508 = sumB (l.take 508) then (⟨((l.take 508).drop 4).toArray⟩, none) else (⟨#[]⟩, some 5)) else (⟨#[]⟩, some 4)
theorem ext_list (s : ByteArray) (a b : Nat) : (s.extract a b).data.toList = (s.data.toList.take b).drop a := by
  rw [ByteArray.data_extract, Array.toList_extract, List.extract_eq_drop_take', List.drop_take]
theorem mark_Open_ev (kind : Int) (s : ByteArray) : Ev (fun k => mark_Open.f k kind s) (openS kind s.data.toList) := by
  have bad : ¬ (s.data.toList.length = 512 ∧ 1 ≤ kind ∧ kind ≤ 255 ∧ s.data.toList.take 4 = headB kind.toNat) → Ev (fun k => mark_Open.j0 k s true) (openS kind s.data.toList) := fun h => by
    refine Ev.from 1 fun k => ?_
    rw [mark_Open.j0, if_pos rfl, openS, if_neg h]
  have hl := dlen s
  unfold mark_Open.f
  by_cases h0 : s.size = 512
  · simp only [if_pos (show (s.size : Int) = 512 by omega)]
    by_cases h1 : kind < 1
    · simp only [if_pos h1]; exact bad (by omega)
    · by_cases h2 : kind > 255
      · simp only [if_neg h1, if_pos h2]; exact bad (by omega)
      · simp only [if_neg h1, if_neg h2]
        simp only [if_pos (show (0 : Int) ≤ 4 by decide), if_pos (show 4 ≤ (s.size : Int) by omega)]
        refine Ev.bind (head_ev kind (by omega) (by omega)) ?_
        have e4 : (s.extract 0 4).toList = s.data.toList.take 4 := by rw [dl, ext_list, List.drop_zero]
        have e4' : ByteArray.toList ⟨(headB kind.toNat).toArray⟩ = headB kind.toNat := by rw [dl]
        rw [e4, e4']
        by_cases h3 : s.data.toList.take 4 = headB kind.toNat
        · rw [h3, bne_self_eq_false]
          refine Ev.step (fun k => by rw [mark_Open.j0, if_neg (by decide), if_pos (by omega), if_pos (by decide)]) ?_
          refine Ev.bind (sumOf_ev (s.extract 0 508) (by rw [ByteArray.size_extract]; omega)) ?_
          have e5 : (s.extract 508 s.size).toList = s.data.toList.drop 508 := by rw [dl, ext_list, List.take_of_length_le (by rw [dlen]; omega)]
          have e6 : (s.extract 0 508).data.toList = s.data.toList.take 508 := by rw [ext_list, List.drop_zero]
          have e7 : ∀ l : List UInt8, ByteArray.toList ⟨(sumB l).toArray⟩ = sumB l := fun l => by rw [dl]
          rw [e5, e6, e7]
          have hc : s.data.toList.length = 512 ∧ 1 ≤ kind ∧ kind ≤ 255 ∧ s.data.toList.take 4 = headB kind.toNat := ⟨by omega, by omega, by omega, h3⟩
          have e8 : s.extract 4 508 = ⟨((s.data.toList.take 508).drop 4).toArray⟩ := by rw [deq, ext_list]
          by_cases h4 : s.data.toList.drop 508 = sumB (s.data.toList.take 508)
          · have eo : openS kind s.data.toList = (⟨((s.data.toList.take 508).drop 4).toArray⟩, none) := by unfold openS; rw [if_pos hc, if_pos h4]
            rw [eo]
            refine Ev.from 0 fun k => ?_
            rw [if_pos h4, if_pos (by decide), e8]
          · have eo : openS kind s.data.toList = (⟨#[]⟩, some 5) := by unfold openS; rw [if_pos hc, if_neg h4]
            rw [eo]
            refine Ev.from 0 fun k => ?_
            rw [if_neg h4]
        · have : (s.data.toList.take 4 != headB kind.toNat) = true := by simpa using h3
          rw [this]
          exact bad (fun h => h3 h.2.2.2)
  · simp only [if_neg (show ¬ (s.size : Int) = 512 by omega)]; exact bad (by omega)
/-- What is sealed opens as that. -/
theorem open_seal (kind : Int) (body : List UInt8) (h1 : 1 ≤ kind) (h2 : kind ≤ 255) (hb : body.length ≤ 504) : openS kind (sealL kind.toNat body) = (⟨(body ++ List.replicate (504 - body.length) 0).toArray⟩, none) := by
  have hbl := bodyL_len kind.toNat body hb
  have t508 : (sealL kind.toNat body).take 508 = bodyL kind.toNat body := by
    unfold sealL
    rw [List.take_append_of_le_length (by omega), List.take_of_length_le (by omega)]
  have d508 : (sealL kind.toNat body).drop 508 = sumB (bodyL kind.toNat body) := by
    unfold sealL
    rw [← hbl, List.drop_left]
  have t4 : (sealL kind.toNat body).take 4 = headB kind.toNat := rfl
  unfold openS
  rw [if_pos ⟨sealL_len _ _ hb, h1, h2, t4⟩, t508, d508, if_pos rfl]
  rfl

/-! ### superget -/
theorem in_num_ok (s : ByteArray) (n : Nat) (h1 : 1 ≤ n) (h7 : n ≤ 7) (h : n ≤ s.size) : inNum s none (n : Int) = ((unB (s.data.toList.take n) : Int), s.extract n s.size, none) := by
  have e : inNumE none (n : Int) = none := by unfold inNumE; rw [if_neg (by omega)]
  have t : inText s none (n : Int) = (s.extract 0 n, s.extract n s.size, none) := by
    unfold inText
    simp only [Option.isNone_none, if_true]
    rw [if_neg (by omega), if_neg (by omega), Int.toNat_natCast]
  unfold inNum
  rw [e, t]
  have hs : (s.extract 0 n).size ≤ 7 := by rw [ByteArray.size_extract]; omega
  have hd : (s.extract 0 n).data.toList = s.data.toList.take n := by rw [bex, List.drop_zero]
  unfold leGetS
  rw [if_pos hs, hd]
theorem in_noughts_ok (s : ByteArray) (n : Nat) (h : n ≤ s.size) : inNoughts s none (n : Int) = (s.extract n s.size, if (s.data.toList.take n).all (· == 0) = true then none else some 4) := by
  have t : inText s none (n : Int) = (s.extract 0 n, s.extract n s.size, none) := by
    unfold inText
    simp only [Option.isNone_none, if_true]
    rw [if_neg (by omega), if_neg (by omega), Int.toNat_natCast]
  have hd : (s.extract 0 n).data.toList = s.data.toList.take n := by rw [bex, List.drop_zero]
  unfold inNoughts
  rw [t]
  simp only [hd, Option.isNone_none, if_true]
theorem bex_end (s : ByteArray) (a : Nat) : (s.extract a s.size).data.toList = s.data.toList.drop a := by
  rw [bex, List.take_of_length_le (by rw [dlen]; exact Nat.le_refl _)]
/-- What Get answers, of a body. -/
def supBody (b : List UInt8) : Int × Int × Option Int :=
  if (b.drop 4).all (· == 0) = true then (if rightL (unB (b.take 2) : Int) (unB ((b.drop 2).take 2) : Int) = true then ((unB (b.take 2) : Int), (unB ((b.drop 2).take 2) : Int), none) else (0, 0, some 17)) else (0, 0, some 4)
/-- What Get answers. -/
def supGet (l : List UInt8) : Int × Int × Option Int :=
  if (openS 1 l).2.isNone = true then supBody (openS 1 l).1.data.toList else (0, 0, some ((openS 1 l).2.getD 0))
theorem open_size {kind : Int} {l : List UInt8} (h : (openS kind l).2.isNone = true) : (openS kind l).1.size = 504 := by
  unfold openS at h ⊢
  split at h
  · rename_i hc
    split at h
    · rename_i h4
      rw [if_pos hc, if_pos h4, ← dlen]
      show ((l.take 508).drop 4).length = 504
      rw [List.length_drop, List.length_take, hc.1]; rfl
    · cases h
  · cases h
/-! ### open03 -/
/-- What the document's Open answers. -/
def refOpen (kind : Int) (s : ByteArray) : ByteArray × Int := ((openS kind s.data.toList).1, (openS kind s.data.toList).2.getD 0)
theorem ref_Open_ev (kind : Int) (s : ByteArray) : Ev (fun k => posthorseref03_Open.f k kind s) (refOpen kind s) := by
  have bad : ¬ (s.data.toList.length = 512 ∧ 1 ≤ kind ∧ kind ≤ 255 ∧ s.data.toList.take 4 = headB kind.toNat) → Ev (fun k => posthorseref03_Open.j0 k s true) (refOpen kind s) := fun h => by
    have eo : openS kind s.data.toList = (⟨#[]⟩, some 4) := by unfold openS; rw [if_neg h]
    refine Ev.from 1 fun k => ?_
    rw [posthorseref03_Open.j0, if_pos rfl]
    unfold refOpen
    rw [eo]; rfl
  have hl := dlen s
  unfold posthorseref03_Open.f
  by_cases h0 : s.size = 512
  · simp only [if_pos (show (s.size : Int) = 512 by omega)]
    by_cases h1 : kind < 1
    · simp only [if_pos h1]; exact bad (by omega)
    · by_cases h2 : kind > 255
      · simp only [if_neg h1, if_pos h2]; exact bad (by omega)
      · simp only [if_neg h1, if_neg h2]
        simp only [if_pos (show (0 : Int) ≤ 4 by decide), if_pos (show 4 ≤ (s.size : Int) by omega)]
        refine Ev.bind (Ev.now _) ?_
        have es : (strOfNums [kind % 256, 0]).size = 2 := rfl
        have e : (⟨#[80, 72]⟩ : ByteArray) ++ strOfNums [kind % 256, 0] = ⟨(headB kind.toNat).toArray⟩ := by
          rw [deq, dapp]
          show [80, 72] ++ [UInt8.ofNat (kind % 256).toNat, UInt8.ofNat (0 : Int).toNat] = headB kind.toNat
          unfold headB
          rw [show (kind % 256).toNat = kind.toNat % 256 by omega]; simp
        simp only [if_pos (show 2 + (strOfNums [kind % 256, 0]).size ≤ 9223372036854775807 by rw [es]; decide)]
        rw [e]
        have e4 : (s.extract 0 4).toList = s.data.toList.take 4 := by rw [dl, ext_list, List.drop_zero]
        have e4' : ByteArray.toList ⟨(headB kind.toNat).toArray⟩ = headB kind.toNat := by rw [dl]
        rw [e4, e4']
        by_cases h3 : s.data.toList.take 4 = headB kind.toNat
        · rw [h3, bne_self_eq_false]
          refine Ev.step (fun k => by rw [posthorseref03_Open.j0, if_neg (by decide), if_pos (by decide), if_pos (by omega)]) ?_
          have e6 : (s.extract 0 508).data.toList = s.data.toList.take 508 := by rw [ext_list, List.drop_zero]
          have hs := sumOfL_lt (s.data.toList.take 508)
          refine Ev.bind (ref03_Sum_ev (s.extract 0 508) (by rw [ByteArray.size_extract]; omega)) ?_
          rw [e6, w64 (by omega) (by omega)]
          refine Ev.bind (ref01_Put_ev _ 4 (wf_of (by omega) (by omega))) ?_
          have e2 : lePutS (sumOfL (s.data.toList.take 508) : Int) 4 = ⟨(sumB (s.data.toList.take 508)).toArray⟩ := by
            unfold lePutS sumB
            rw [if_pos ⟨by omega, by omega, by omega, by show (sumOfL (s.data.toList.take 508) : Int) < 256 ^ 4; omega⟩]; rfl
          have e5 : (s.extract 508 s.size).toList = s.data.toList.drop 508 := by rw [dl, ext_list, List.take_of_length_le (by rw [dlen]; omega)]
          have e7 : ∀ l : List UInt8, ByteArray.toList ⟨(sumB l).toArray⟩ = sumB l := fun l => by rw [dl]
          rw [e2, e5, e7]
          have hc : s.data.toList.length = 512 ∧ 1 ≤ kind ∧ kind ≤ 255 ∧ s.data.toList.take 4 = headB kind.toNat := ⟨by omega, by omega, by omega, h3⟩
          have e8 : s.extract 4 508 = ⟨((s.data.toList.take 508).drop 4).toArray⟩ := by rw [deq, ext_list]
          by_cases h4 : s.data.toList.drop 508 = sumB (s.data.toList.take 508)
          · have eo : openS kind s.data.toList = (⟨((s.data.toList.take 508).drop 4).toArray⟩, none) := by unfold openS; rw [if_pos hc, if_pos h4]
            unfold refOpen
            rw [eo]
            refine Ev.from 0 fun k => ?_
            rw [if_pos h4.symm, if_pos (by decide), e8]; rfl
          · have eo : openS kind s.data.toList = (⟨#[]⟩, some 5) := by unfold openS; rw [if_pos hc, if_neg h4]
            unfold refOpen
            rw [eo]
            refine Ev.from 0 fun k => ?_
            rw [if_neg (fun h => h4 h.symm)]; rfl
        · have : (s.data.toList.take 4 != headB kind.toNat) = true := by simpa using h3
          rw [this]
          exact bad (fun h => h3 h.2.2.2)
  · simp only [if_neg (show ¬ (s.size : Int) = 512 by omega)]; exact bad (by omega)
theorem openS_code (kind : Int) (l : List UInt8) : (openS kind l).2 = none ∨ (openS kind l).2 = some 4 ∨ (openS kind l).2 = some 5 := by
  unfold openS
  split
  · split
    · exact .inl rfl
    · exact .inr (.inr rfl)
  · exact .inr (.inl rfl)

/-! ### ref01 -/
theorem ref01_Get_loop (s : ByteArray) (hs : s.size ≤ 7) : ∀ (i : Nat), i ≤ s.size → Ev (fun k => posthorseref01_Get.l0 k s (unB (s.data.toList.drop i) : Int) ((i : Int) - 1)) (unB s.data.toList : Int) := by
  intro i
  induction i with
  | zero =>
    intro _
    refine Ev.from 1 fun k => ?_
    rw [posthorseref01_Get.l0, if_neg (by omega), List.drop_zero]
  | succ i ih =>
    intro hi
    have hil : i < s.data.toList.length := by rw [dlen]; omega
    have e1 : ((i + 1 : Nat) : Int) - 1 = (i : Int) := by omega
    have e2 : wrap64 ((i : Int) - 1) = (i : Int) - 1 := w64 (by omega) (by omega)
    have hb := (s.data.toList[i]).toNat_lt
    have hlt := unB_lt (s.data.toList.drop (i + 1))
    rw [List.length_drop, dlen] at hlt
    have hp : 256 ^ (s.size - (i + 1)) ≤ 256 ^ 6 := Nat.pow_le_pow_right (by decide) (by omega)
    have e3 : bt s (i : Int) = ((s.data.toList[i]).toNat : Int) := by
      rw [bt_get, List.getD_eq_getElem?_getD, List.getElem?_eq_getElem hil]; rfl
    have e4 : unB (s.data.toList.drop i) = (s.data.toList[i]).toNat + 256 * unB (s.data.toList.drop (i + 1)) := by
      rw [List.drop_eq_getElem_cons hil, unB]
    refine Ev.step (fun k => ?_) (ih (by omega))
    rw [e1, posthorseref01_Get.l0, if_pos (by omega), if_pos (by omega), if_pos (by omega), e2, e3, e4]
    rw [w64 (n := 256 * _) (by omega) (by omega), w64 (n := ((s.data.toList[i]).toNat : Int)) (by omega) (by omega), w64 (by omega) (by omega)]
    congr 1
    omega
theorem ref01_Get_ev (s : ByteArray) : Ev (fun k => posthorseref01_Get.f k s) (leGetS s) := by
  unfold posthorseref01_Get.f leGetS
  by_cases h : s.size ≤ 7
  · simp only [if_neg (show ¬ (s.size : Int) > 7 by omega), if_pos h]
    rw [w64 (by omega) (by omega)]
    have := ref01_Get_loop s h s.size (Nat.le_refl _)
    rw [List.drop_of_length_le (by rw [dlen]; omega)] at this
    exact this
  · simp only [if_pos (show (s.size : Int) > 7 by omega), if_neg h]; exact Ev.now _

/-! ### iget08 -/
def extAt (L : List UInt8) (i : Nat) : EX := ⟨(unB ((L.drop (7 + 4 * i)).take 2) : Int), (unB ((L.drop (9 + 4 * i)).take 2) : Int)⟩
def extsOf (L : List UInt8) (n : Nat) : List EX := (List.range n).map (extAt L)
theorem exts_len (L : List UInt8) (n : Nat) : (extsOf L n).length = n := by simp [extsOf]
theorem exts_snoc (L : List UInt8) (n : Nat) : extsOf L n ++ [extAt L n] = extsOf L (n + 1) := by
  unfold extsOf
  rw [List.range_succ, List.map_append]; rfl
def numOf (L : List UInt8) : Nat := (L.getD 6 0).toNat
/-- What Get answers, of a body. -/
def getI (s : Int) (L : List UInt8) : Int × List EX × Option Int :=
  if 36 < numOf L then (0, [], some 4) else if (L.drop (7 + 4 * numOf L)).all (· == 0) = true then (if rightB (unB (L.take 6) : Int) (extsOf L (numOf L)) s = true then ((unB (L.take 6) : Int), extsOf L (numOf L), none) else (0, [], some 17)) else (0, [], some 4)
/-- What Get answers. -/
def getA (s : Int) (l : List UInt8) : Int × List EX × Option Int := if (openS 6 l).2.isNone = true then getI s (openS 6 l).1.data.toList else (0, [], some ((openS 6 l).2.getD 0))
theorem in_rest (s : ByteArray) (e : Option Int) (n : Int) (hn : 0 ≤ n) : (inText s e n).2.1.size ≤ s.size := by
  unfold inText
  split
  · split
    · exact Nat.le_refl _
    · split
      · exact Nat.le_refl _
      · show (s.extract n.toNat s.size).size ≤ s.size
        rw [ByteArray.size_extract]; omega
  · exact Nat.le_refl _
theorem long_get (sec : Int) (n : Nat) (hn : 36 < n) (hn2 : n < 256) (v : Int) : ∀ (d i : Nat) (s : ByteArray) (e : Option Int) (X : List EX), i + d = n → s.size ≤ 504 → X.length ≤ i → Ev (fun k => inode_Get.l0 k sec (n : Int) (n : Int) (i : Int) s e v X) (0, [], some 4) := by
  intro d
  induction d with
  | zero =>
    intro i s e X hi hs hX
    refine Ev.suc ?_
    simp only [inode_Get.l0, if_neg (show ¬ (i : Int) < (n : Int) by omega), in_noughts s e _ (show s.size ≤ 9223372036854775807 by omega), Option.bind_some, if_pos (show (n : Int) > 36 by omega)]
    exact Ev.from 1 fun k => by rw [inode_Get.j1, if_pos rfl]
  | succ d ih =>
    intro i s e X hi hs hX
    refine Ev.suc ?_
    simp only [inode_Get.l0, if_pos (show (i : Int) < (n : Int) by omega)]
    refine Ev.bind (in_num s e 2) (Ev.bind (in_num _ _ 2) ?_)
    simp only [if_pos (show X.length < 8796093022208 by omega)]
    rw [w64 (n := (i : Int) + 1) (by omega) (by omega)]
    have r1 : (inNum s e 2).2.1.size ≤ s.size := in_rest s (inNumE e 2) 2 (by decide)
    have r2 : (inNum (inNum s e 2).2.1 (inNum s e 2).2.2 2).2.1.size ≤ (inNum s e 2).2.1.size := in_rest _ (inNumE _ 2) 2 (by decide)
    exact ih (i + 1) _ _ _ (by omega) (by omega) (by rw [List.length_append, List.length_singleton]; omega)
theorem short_get (sec : Int) (L : List UInt8) (hL : L.length = 504) (n : Nat) (hn : n ≤ 36) (v : Int) : ∀ (d i : Nat) (s : ByteArray), i + d = n → s.data.toList = L.drop (7 + 4 * i) → Ev (fun k => inode_Get.l0 k sec (n : Int) (n : Int) (i : Int) s none v (extsOf L i)) (if (L.drop (7 + 4 * n)).all (· == 0) = true then (if rightB v (extsOf L n) sec = true then (v, extsOf L n, none) else (0, [], some 17)) else (0, [], some 4)) := by
  intro d
  induction d with
  | zero =>
    intro i s hi hs
    obtain rfl : i = n := by omega
    have hsz : s.size = 497 - 4 * i := by rw [← dlen, hs, List.length_drop]; omega
    have e1 : wrap64 (497 - wrap64 (4 * (i : Int))) = ((497 - 4 * i : Nat) : Int) := by
      rw [w64 (n := 4 * (i : Int)) (by omega) (by omega), w64 (by omega) (by omega)]; omega
    refine Ev.suc ?_
    simp only [inode_Get.l0, if_neg (show ¬ (i : Int) < (i : Int) by omega), e1, in_noughts s none _ (show s.size ≤ 9223372036854775807 by omega), Option.bind_some, if_neg (show ¬ (i : Int) > 36 by omega), in_noughts_ok s (497 - 4 * i) (by omega)]
    rw [List.take_of_length_le (by rw [hs, List.length_drop]; omega), hs]
    have hre : (s.extract (497 - 4 * i) s.size).data.toList = [] := by
      rw [bex_end, List.drop_eq_nil_of_le (by rw [dlen]; omega)]
    generalize s.extract (497 - 4 * i) s.size = q at hre ⊢
    by_cases ha : (L.drop (7 + 4 * i)).all (· == 0) = true
    · simp only [if_pos ha]
      obtain ⟨r, hr⟩ := in_end q none
      have he : inEnd q none = none := by
        unfold inEnd
        rw [hre]; rfl
      rw [he] at hr
      simp only [hr, Option.bind_some, Option.isNone_none, if_true]
      refine Ev.from 1 fun k => ?_
      rw [inode_Get.j1, if_neg (by decide), right_all, Option.bind_some]
      by_cases hb : rightB v (extsOf L i) sec = true
      · rw [if_pos hb, if_pos hb]
      · rw [if_neg hb, if_neg hb]
    · simp only [if_neg ha]
      obtain ⟨r, hr⟩ := in_end q (some 4)
      have he : inEnd q (some 4) = some 4 := rfl
      rw [he] at hr
      simp only [hr, Option.bind_some, Option.isNone_some, Bool.false_eq_true, if_false]
      exact Ev.from 1 fun k => by rw [inode_Get.j1, if_pos rfl]
  | succ d ih =>
    intro i s hi hs
    have hsz : s.size = 497 - 4 * i := by rw [← dlen, hs, List.length_drop]; omega
    refine Ev.suc ?_
    simp only [inode_Get.l0, if_pos (show (i : Int) < (n : Int) by omega)]
    have n1 := in_num s none 2
    rw [show (2 : Int) = ((2 : Nat) : Int) from rfl, in_num_ok s 2 (by omega) (by omega) (by omega)] at n1
    refine Ev.bind n1 ?_
    have s1 : (s.extract 2 s.size).size = 495 - 4 * i := by rw [ByteArray.size_extract]; omega
    have d1 := bex_end s 2
    rw [hs, List.drop_drop] at d1
    generalize s.extract 2 s.size = b1 at *
    have n2 := in_num b1 none 2
    rw [show (2 : Int) = ((2 : Nat) : Int) from rfl, in_num_ok b1 2 (by omega) (by omega) (by omega)] at n2
    refine Ev.bind n2 ?_
    have d2 := bex_end b1 2
    rw [d1, List.drop_drop] at d2
    generalize b1.extract 2 b1.size = b2 at *
    simp only [exts_len, if_pos (show i < 8796093022208 by omega)]
    rw [w64 (n := (i : Int) + 1) (by omega) (by omega), hs, d1]
    have := ih (i + 1) b2 (by omega) (by rw [d2]; congr 1)
    rw [← exts_snoc] at this
    have e3 : (⟨(unB ((L.drop (7 + 4 * i)).take 2) : Int), (unB ((L.drop (7 + 4 * i + 2)).take 2) : Int)⟩ : EX) = extAt L i := by
      unfold extAt
      rw [show 7 + 4 * i + 2 = 9 + 4 * i by omega]
    rw [e3]
    exact this
theorem unB_one (L : List UInt8) (h : 6 < L.length) : unB ((L.drop 6).take 1) = (L.getD 6 0).toNat := by
  rw [List.drop_eq_getElem_cons h, List.getD_eq_getElem?_getD, List.getElem?_eq_getElem h]
  show unB [L[6]] = L[6].toNat
  simp [unB]
theorem iget_prog (sec : Int) (s : ByteArray) : Ev (fun k => inode_Get.f k s sec) (getA sec s.data.toList) := by
  unfold inode_Get.f getA
  refine Ev.bind (mark_Open_ev 6 s) ?_
  by_cases h : (openS 6 s.data.toList).2.isNone = true
  · simp only [if_pos h]
    have hsz := open_size h
    generalize (openS 6 s.data.toList).1 = b at *
    refine Ev.bind (a := (b, none)) (Ev.now _) ?_
    have n1 := in_num b none 6
    rw [show (6 : Int) = ((6 : Nat) : Int) from rfl, in_num_ok b 6 (by omega) (by omega) (by omega)] at n1
    refine Ev.bind n1 ?_
    have s1 : (b.extract 6 b.size).size = 498 := by rw [ByteArray.size_extract]; omega
    have d1 := bex_end b 6
    generalize b.extract 6 b.size = b1 at *
    have n2 := in_num b1 none 1
    rw [show (1 : Int) = ((1 : Nat) : Int) from rfl, in_num_ok b1 1 (by omega) (by omega) (by omega)] at n2
    refine Ev.bind n2 ?_
    have s2 : (b1.extract 1 b1.size).size = 497 := by rw [ByteArray.size_extract]; omega
    have d2 := bex_end b1 1
    rw [d1, List.drop_drop] at d2
    generalize b1.extract 1 b1.size = b2 at *
    have hL : b.data.toList.length = 504 := by rw [dlen]; exact hsz
    rw [d1, unB_one _ (by omega)]
    generalize b.data.toList = L at *
    have hn2 : numOf L < 256 := (L.getD 6 0).toNat_lt
    unfold getI
    by_cases c : 36 < numOf L
    · rw [if_pos c]
      exact long_get sec (numOf L) c hn2 _ (numOf L) 0 b2 none [] (by omega) (by omega) (by simp)
    · rw [if_neg c]
      exact short_get sec L hL (numOf L) (by omega) _ (numOf L) 0 b2 (by omega) (by rw [d2])
  · simp only [if_neg h]
    exact Ev.now _
theorem get_ext (b : ByteArray) (a n : Nat) (hn : n ≤ 7) (h : a + n ≤ b.size) : Ev (fun k => posthorseref01_Get.f k (b.extract a (a + n))) (unB ((b.data.toList.drop a).take n) : Int) := by
  have e := ref01_Get_ev (b.extract a (a + n))
  have hs : (b.extract a (a + n)).size = n := by rw [ByteArray.size_extract]; omega
  have hd : (b.extract a (a + n)).data.toList = (b.data.toList.drop a).take n := by
    rw [bex, List.drop_take]; congr 1; omega
  unfold leGetS at e
  rw [if_pos (by omega), hd] at e
  exact e
theorem refget_tail (sec v : Int) (xs : List EX) (hl : xs.length ≤ 36) (b : ByteArray) (hb : b.size = 504) : ∀ (d i : Nat), i + d = 504 → Ev (fun k => posthorseref08_Get.l1 k sec b (i : Int) v (xs.map xr)) (if (b.data.toList.drop i).all (· == 0) = true then (if rightB v xs sec = true then (v, xs.map xr, 0) else (0, [], 17)) else (0, [], 4)) := by
  intro d
  induction d with
  | zero =>
    intro i hi
    rw [List.drop_eq_nil_of_le (by rw [dlen]; omega)]
    refine Ev.suc ?_
    simp only [posthorseref08_Get.l1, if_neg (show ¬ (i : Int) < (b.size : Int) by omega)]
    refine Ev.bind (refRight_all v xs sec (by omega)) ?_
    rw [if_pos (show (([] : List UInt8).all (· == 0)) = true from rfl)]
    by_cases hr : rightB v xs sec = true
    · simp only [if_pos hr]; exact Ev.now _
    · simp only [if_neg hr]; exact Ev.now _
  | succ d ih =>
    intro i hi
    have hil : i < b.data.toList.length := by rw [dlen]; omega
    have hbt : bt b (i : Int) = ((b.data.toList.getD i 0).toNat : Int) := bt_get b i
    have hg : b.data.toList.getD i 0 = (b.data.toList)[i] := by rw [List.getD_eq_getElem?_getD, List.getElem?_eq_getElem hil]; rfl
    rw [List.drop_eq_getElem_cons hil, List.all_cons]
    rw [hg] at hbt
    generalize (b.data.toList)[i]'hil = x at *
    by_cases c : x = 0
    · subst c
      rw [show ((0 : UInt8) == 0) = true from rfl, Bool.true_and]
      refine Ev.step (fun k => ?_) (ih (i + 1) (by omega))
      rw [posthorseref08_Get.l1, if_pos (by omega), if_pos (by omega), hbt, if_pos (by rfl), w64 (by omega) (by omega)]; rfl
    · have hx : ¬ ((x.toNat : Int) = 0) := fun h => c (by
        have : x.toNat = 0 := by omega
        exact UInt8.toNat_inj.1 this)
      rw [show (x == 0) = false from beq_eq_false_iff_ne.2 c, Bool.false_and, if_neg (by decide)]
      exact Ev.from 1 fun k => by rw [posthorseref08_Get.l1, if_pos (by omega), if_pos (by omega), hbt, if_neg hx]
theorem iget_ref (sec : Int) (s : ByteArray) : Ev (fun k => posthorseref08_Get.f k s sec) ((getA sec s.data.toList).1, (getA sec s.data.toList).2.1.map xr, (getA sec s.data.toList).2.2.getD 0) := by
  unfold posthorseref08_Get.f getA
  refine Ev.bind (ref_Open_ev 6 s) ?_
  unfold refOpen
  by_cases h : (openS 6 s.data.toList).2.isNone = true
  · have h0 : (openS 6 s.data.toList).2.getD 0 = 0 := by
      rw [Option.isNone_iff_eq_none] at h
      rw [h]; rfl
    have hsz := open_size h
    simp only [h0, if_true, if_pos h]
    generalize (openS 6 s.data.toList).1 = b at *
    simp only [if_pos (show (0 : Int) ≤ 6 by decide), if_pos (show (6 : Int) ≤ (b.size : Int) by omega), if_pos (show (6 : Int) < (b.size : Int) by omega)]
    refine Ev.bind (get_ext b 0 6 (by decide) (by omega)) ?_
    rw [List.drop_zero]
    have hbt : wrap64 (bt b 6) = ((numOf b.data.toList : Nat) : Int) := by
      have := bt_get b 6
      rw [show bt b 6 = bt b ((6 : Nat) : Int) from rfl, this]
      have h2 := (b.data.toList.getD 6 0).toNat_lt
      rw [w64 (by omega) (by omega)]; rfl
    rw [hbt]
    have hn2 : numOf b.data.toList < 256 := (b.data.toList.getD 6 0).toNat_lt
    unfold getI
    by_cases c : 36 < numOf b.data.toList
    · simp only [if_pos (show ((numOf b.data.toList : Nat) : Int) > 36 by omega), if_pos c]
      exact Ev.now _
    · simp only [if_neg (show ¬ ((numOf b.data.toList : Nat) : Int) > 36 by omega), if_neg c]
      have lp : ∀ (d i : Nat), i + d = numOf b.data.toList → Ev (fun k => posthorseref08_Get.l0 k sec b ((numOf b.data.toList : Nat) : Int) (i : Int) (unB (b.data.toList.take 6) : Int) ((extsOf b.data.toList i).map xr)) (if (b.data.toList.drop (7 + 4 * numOf b.data.toList)).all (· == 0) = true then (if rightB (unB (b.data.toList.take 6) : Int) (extsOf b.data.toList (numOf b.data.toList)) sec = true then ((unB (b.data.toList.take 6) : Int), (extsOf b.data.toList (numOf b.data.toList)).map xr, 0) else (0, [], 17)) else (0, [], 4)) := by
        intro d
        induction d with
        | zero =>
          intro i hi
          obtain rfl : i = numOf b.data.toList := by omega
          have t := refget_tail sec (unB (b.data.toList.take 6) : Int) (extsOf b.data.toList (numOf b.data.toList)) (by rw [exts_len]; omega) b hsz (504 - (7 + 4 * numOf b.data.toList)) (7 + 4 * numOf b.data.toList) (by omega)
          refine Ev.step (fun k => ?_) t
          rw [posthorseref08_Get.l0, if_neg (by omega), w64 (n := 4 * ((numOf b.data.toList : Nat) : Int)) (by omega) (by omega), w64 (by omega) (by omega)]
          congr 1
        | succ d ih =>
          intro i hi
          have e7 : wrap64 (7 + wrap64 (4 * (i : Int))) = ((7 + 4 * i : Nat) : Int) := by rw [w64 (n := 4 * (i : Int)) (by omega) (by omega), w64 (by omega) (by omega)]; omega
          have e9 : wrap64 (9 + wrap64 (4 * (i : Int))) = ((9 + 4 * i : Nat) : Int) := by rw [w64 (n := 4 * (i : Int)) (by omega) (by omega), w64 (by omega) (by omega)]; omega
          have e11 : wrap64 (11 + wrap64 (4 * (i : Int))) = ((11 + 4 * i : Nat) : Int) := by rw [w64 (n := 4 * (i : Int)) (by omega) (by omega), w64 (by omega) (by omega)]; omega
          have hnx := ih (i + 1) (by omega)
          generalize hnn : numOf b.data.toList = n at *
          refine Ev.suc ?_
          simp only [posthorseref08_Get.l0, if_pos (show (i : Int) < (n : Int) by omega), e7, e9, e11, Int.toNat_natCast, if_pos (show (0 : Int) ≤ ((7 + 4 * i : Nat) : Int) by omega), if_pos (show ((7 + 4 * i : Nat) : Int) ≤ ((9 + 4 * i : Nat) : Int) by omega), if_pos (show ((9 + 4 * i : Nat) : Int) ≤ (b.size : Int) by omega), if_pos (show (0 : Int) ≤ ((9 + 4 * i : Nat) : Int) by omega), if_pos (show ((9 + 4 * i : Nat) : Int) ≤ ((11 + 4 * i : Nat) : Int) by omega), if_pos (show ((11 + 4 * i : Nat) : Int) ≤ (b.size : Int) by omega)]
          have g1 := get_ext b (7 + 4 * i) 2 (by decide) (by omega)
          have g2 := get_ext b (9 + 4 * i) 2 (by decide) (by omega)
          rw [show 7 + 4 * i + 2 = 9 + 4 * i by omega] at g1
          rw [show 9 + 4 * i + 2 = 11 + 4 * i by omega] at g2
          refine Ev.bind g1 (Ev.bind g2 ?_)
          simp only [List.length_map, exts_len, if_pos (show i < 8796093022208 by omega)]
          rw [w64 (n := (i : Int) + 1) (by omega) (by omega)]
          rw [← exts_snoc, List.map_append] at hnx
          exact hnx
      have := lp (numOf b.data.toList) 0 (by omega)
      by_cases ha : (b.data.toList.drop (7 + 4 * numOf b.data.toList)).all (· == 0) = true
      · rw [if_pos ha] at this ⊢
        by_cases hr : rightB (unB (b.data.toList.take 6) : Int) (extsOf b.data.toList (numOf b.data.toList)) sec = true
        · rw [if_pos hr] at this ⊢; exact this
        · rw [if_neg hr] at this ⊢; exact this
      · rw [if_neg ha] at this ⊢; exact this
  · have h0 : ¬ (openS 6 s.data.toList).2.getD 0 = 0 := by
      rcases openS_code 6 s.data.toList with e | e | e
      · rw [e] at h; exact absurd rfl h
      · rw [e]; decide
      · rw [e]; decide
    simp only [if_neg h0, if_neg h]
    exact Ev.now _
theorem getI_len (sec : Int) (L : List UInt8) : (getI sec L).2.1.length ≤ 36 := by
  unfold getI
  split
  · exact Nat.zero_le _
  · rename_i hc
    split
    · split
      · show (extsOf _ _).length ≤ 36
        rw [exts_len]; omega
      · exact Nat.zero_le _
    · exact Nat.zero_le _
theorem getA_len (sec : Int) (l : List UInt8) : (getA sec l).2.1.length ≤ 36 := by
  unfold getA
  split
  · exact getI_len _ _
  · exact Nat.zero_le _

/-! ### InodeGets -/
theorem spec_mono {s t : Int} (h : s ≤ t) : ∀ (xs pre : List EX), specR s pre xs = true → specR t pre xs = true
  | [], _, _ => rfl
  | x :: xs, pre, hx => by
    rw [specR, Bool.and_eq_true, Bool.and_eq_true] at hx ⊢
    obtain ⟨h1, h2, h3⟩ := hx
    obtain ⟨a1, a2, a3, a4⟩ := of_decide_eq_true h1
    exact ⟨decide_eq_true ⟨a1, a2, by omega, by omega⟩, h2, spec_mono h xs _ h3⟩
theorem right_up {v s : Int} {xs : List EX} (h : rightB v xs s = true) : rightB v xs 2048 = true := by
  obtain ⟨h1, h2, h3, _, h5, h6, h7⟩ := right_facts h
  unfold rightB
  rw [if_neg (by omega)]
  exact spec_mono h5 xs [] h7
theorem leB_of (l : List UInt8) (n : Nat) (h : l.length = n) : leB n ((unB l : Nat) : Int).toNat = l := by
  rw [Int.toNat_natCast, ← h]; exact leB_unB l
theorem flat_exts (L : List UInt8) : ∀ n : Nat, 7 + 4 * n ≤ L.length → (L.take 7) ++ flatI (extsOf L n) = L.take (7 + 4 * n)
  | 0, _ => by rw [show extsOf L 0 = [] from rfl, show flatI [] = [] from rfl, List.append_nil]
  | n + 1, h => by
    have ih := flat_exts L n (by omega)
    have e1 : flatI (extsOf L (n + 1)) = flatI (extsOf L n) ++ (leB 2 (extAt L n).f0.toNat ++ leB 2 (extAt L n).f1.toNat) := by
      rw [← exts_snoc]
      unfold flatI
      rw [List.flatMap_append]
      congr 1
    have l0 : leB 2 (extAt L n).f0.toNat = (L.drop (7 + 4 * n)).take 2 := leB_of _ 2 (by rw [List.length_take, List.length_drop]; omega)
    have l1 : leB 2 (extAt L n).f1.toNat = (L.drop (9 + 4 * n)).take 2 := leB_of _ 2 (by rw [List.length_take, List.length_drop]; omega)
    rw [e1, l0, l1, ← List.append_assoc, ih, ← List.append_assoc, ← List.take_add, show 7 + 4 * n + 2 = 9 + 4 * n by omega, ← List.take_add]
    congr 1; omega
theorem putI_get (L : List UInt8) (hL : L.length = 504) (hn : numOf L ≤ 36) : putI (unB (L.take 6) : Int) (extsOf L (numOf L)) = L.take (7 + 4 * numOf L) := by
  rw [← flat_exts L (numOf L) (by omega)]
  unfold putI
  congr 1
  rw [exts_len, leB_of _ 6 (by rw [List.length_take]; omega)]
  have h6 : 6 < L.length := by omega
  have : leB 1 (numOf L) = (L.drop 6).take 1 := by
    rw [← leB_of ((L.drop 6).take 1) 1 (by rw [List.length_take, List.length_drop]; omega), Int.toNat_natCast, unB_one L h6]; rfl
  rw [this, ← List.take_add]
theorem zeros_of {l : List UInt8} (h : l.all (· == 0) = true) : l = List.replicate l.length 0 := by
  rw [List.eq_replicate_iff]
  exact ⟨rfl, fun b hb => by have := List.all_eq_true.1 h b hb; simpa using this⟩
theorem body_same (L body : List UInt8) (n : Nat) (hn : n ≤ 504) (hb : body.length ≤ 504) (hL : L = body ++ List.replicate (504 - body.length) 0) (hz : (L.drop n).all (· == 0) = true) : bodyL 6 (L.take n) = bodyL 6 body := by
  have hl : L.length = 504 := by rw [hL, List.length_append, List.length_replicate]; omega
  unfold bodyL
  rw [List.append_assoc, List.append_assoc, ← hL]
  congr 1
  rw [List.length_take, Nat.min_eq_left (by omega)]
  have := zeros_of hz
  rw [List.length_drop, hl] at this
  rw [← this, List.take_append_drop]
theorem InodeGets : InodeGets.Pure := by
  intro a0 a1 _ _
  refine Ev.rounds (g := fun k => posthorselaw08_InodeGets.f k a0 a1) ?_
  unfold posthorselaw08_InodeGets.f
  refine Ev.bind speaks08_ev ?_
  have hm : mn (a0.size : Int) 504 = if (504 : Int) < (a0.size : Int) then 504 else (a0.size : Int) := mn_eq _ _
  have h0 : 0 ≤ mn (a0.size : Int) 504 := by rw [hm]; split <;> omega
  have h1 : mn (a0.size : Int) 504 ≤ (a0.size : Int) := by rw [hm]; split <;> omega
  have h2 : mn (a0.size : Int) 504 ≤ 504 := by rw [hm]; split <;> omega
  simp only [if_true, if_pos h0, if_pos h1]
  generalize hB : a0.extract 0 (mn (a0.size : Int) 504).toNat = b
  have hbs : b.size ≤ 504 := by rw [← hB, ByteArray.size_extract]; omega
  have hbl : b.data.toList.length ≤ 504 := by rw [dlen]; exact hbs
  have hs := ref_Seal_ev 6 b
  have er : refSeal 6 b = (⟨(sealL 6 b.data.toList).toArray⟩, 0) := by
    unfold refSeal
    rw [if_neg (by decide), if_neg (by omega)]; rfl
  rw [er] at hs
  refine Ev.bind hs ?_
  have hop : openS 6 (sealL 6 b.data.toList) = (⟨(b.data.toList ++ List.replicate (504 - b.data.toList.length) 0).toArray⟩, none) := open_seal 6 b.data.toList (by decide) (by decide) hbl
  generalize hL : b.data.toList ++ List.replicate (504 - b.data.toList.length) 0 = L at hop
  have hLl : L.length = 504 := by rw [← hL, List.length_append, List.length_replicate]; omega
  have hg : getA a1 (sealL 6 b.data.toList) = getI a1 L := by
    unfold getA
    rw [hop]; rfl
  have g1 := iget_prog a1 ⟨(sealL 6 b.data.toList).toArray⟩
  have g2 := iget_ref a1 ⟨(sealL 6 b.data.toList).toArray⟩
  rw [show (⟨(sealL 6 b.data.toList).toArray⟩ : ByteArray).data.toList = sealL 6 b.data.toList from rfl, hg] at g1 g2
  refine Ev.bind g1 (Ev.bind g2 ?_)
  have hgl := getI_len a1 L
  refine Ev.bind (same_ev _ _ (by omega)) ?_
  have hcode : ∀ e, posthorselaw08_code.f e = some (e.getD 0) := fun e => by cases e <;> rfl
  simp only [if_true, hcode, Option.bind_some, bne_self_eq_false]
  refine Ev.suc ?_
  simp only [posthorselaw08_InodeGets.j0, Bool.false_eq_true, if_false]
  by_cases hz : (getI a1 L).2.2.getD 0 = 0
  case neg => simp only [if_neg hz]; exact Ev.now _
  simp only [if_pos hz]
  have key : getI a1 L = ((unB (L.take 6) : Int), extsOf L (numOf L), none) ∧ numOf L ≤ 36 ∧ (L.drop (7 + 4 * numOf L)).all (· == 0) = true ∧ rightB (unB (L.take 6) : Int) (extsOf L (numOf L)) a1 = true := by
    unfold getI at hz ⊢
    by_cases c : 36 < numOf L
    · rw [if_pos c] at hz; exact absurd hz (by decide)
    · rw [if_neg c] at hz ⊢
      by_cases ha : (L.drop (7 + 4 * numOf L)).all (· == 0) = true
      · rw [if_pos ha] at hz ⊢
        by_cases hr : rightB (unB (L.take 6) : Int) (extsOf L (numOf L)) a1 = true
        · rw [if_pos hr]; exact ⟨rfl, by omega, ha, hr⟩
        · rw [if_neg hr] at hz; exact absurd hz (by decide)
      · rw [if_neg ha] at hz; exact absurd hz (by decide)
  obtain ⟨k1, k2, k3, k4⟩ := key
  rw [k1]
  have hp := iput_prog (unB (L.take 6) : Int) (extsOf L (numOf L)) (by rw [exts_len]; omega)
  rw [if_pos (right_up k4), putI_get L hLl k2] at hp
  refine Ev.bind hp ?_
  have hseal : sealL 6 (L.take (7 + 4 * numOf L)) = sealL 6 b.data.toList := by
    unfold sealL
    rw [body_same L b.data.toList (7 + 4 * numOf L) (by omega) hbl hL.symm k3]
  simp only [Option.isNone_none, if_true, hseal, beq_self_eq_true]
  exact Ev.now _

end Go.Proofs.YtmncfcebjohloaaGreatDoor.Pure
