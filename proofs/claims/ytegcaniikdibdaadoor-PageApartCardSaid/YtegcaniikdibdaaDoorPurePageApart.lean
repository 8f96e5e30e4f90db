/- PageApart: the pure law; for every input, no condition. -/
import Derived.Test.YtegcaniikdibdaaDoorVPageApartx11
import Derived.OpenShut
import Derived.Lib.IndexEntry
namespace Go.Proofs.YtegcaniikdibdaaDoor.Pure
open Go Go.RowKit Go.Proofs.YtegcaniikdibdaaDoor.VPageApart Go.Proofs.YtegcaniikdibdaaDoorW.PrintWords Go.Proofs.YtegcaniikdibdaaDoorW.PrintLast
set_option linter.unusedSimpArgs false
set_option linter.unusedVariables false

def PageApart.Pure : Prop := ∀ (a0_0 : Int) (a0_1 : List ByteArray) (a0_2 : List ByteArray) (a0_3 : List Int) (a0_4 : Bool) (a1_0 : Int) (a1_1 : List ByteArray) (a1_2 : List ByteArray) (a1_3 : List Int) (a1_4 : Bool), (Lit.int .i64 a0_0).wf = true → (a0_1.length * 16 ≤ 140737488351232 ∧ a0_1.length ≤ maxLen ∧ ∀ a0_1y ∈ a0_1, a0_1y.size ≤ 140737488351232) → (a0_2.length * 16 ≤ 140737488351232 ∧ a0_2.length ≤ maxLen ∧ ∀ a0_2y ∈ a0_2, a0_2y.size ≤ 140737488351232) → (a0_3.length * 8 ≤ 140737488351232 ∧ a0_3.length ≤ maxLen ∧ ∀ a0_3y ∈ a0_3, (Lit.int .i64 a0_3y).wf = true) → (Lit.int .i64 a1_0).wf = true → (a1_1.length * 16 ≤ 140737488351232 ∧ a1_1.length ≤ maxLen ∧ ∀ a1_1y ∈ a1_1, a1_1y.size ≤ 140737488351232) → (a1_2.length * 16 ≤ 140737488351232 ∧ a1_2.length ≤ maxLen ∧ ∀ a1_2y ∈ a1_2, a1_2y.size ≤ 140737488351232) → (a1_3.length * 8 ≤ 140737488351232 ∧ a1_3.length ≤ maxLen ∧ ∀ a1_3y ∈ a1_3, (Lit.int .i64 a1_3y).wf = true) → ∃ k, posthorselaw11_PageApart.f k a0_0 a0_1 a0_2 a0_3 a0_4 a1_0 a1_1 a1_2 a1_3 a1_4 = some true
/-! ### base -/
theorem dl (s : ByteArray) : s.toList = s.data.toList := Lib.toList_data s
theorem deq {a b : ByteArray} : a = b ↔ a.data.toList = b.data.toList := ⟨fun h => by rw [h], fun h => Go.WideShapes.bytes_inj h⟩
theorem dapp (a b : ByteArray) : (a ++ b).data.toList = a.data.toList ++ b.data.toList := by simp
theorem dlen (a : ByteArray) : a.data.toList.length = a.size := by rw [Array.length_toList]; rfl
theorem w64 {n : Int} (h0 : -9223372036854775808 ≤ n) (h1 : n ≤ 9223372036854775807) : wrap64 n = n := by unfold wrap64; omega
theorem i64b {n : Int} (h : (Lit.int .i64 n).wf = true) : -9223372036854775808 ≤ n ∧ n ≤ 9223372036854775807 := bounds_i64 h
theorem u8w (n : Int) : IntKind.u8.wrap n = n % 256 := IntKind.wrap_u8 n
theorem Ev.all {α : Type} {g : Nat → Option α} {r : α} (h : ∀ k, g k = some r) : Ev g r := ⟨0, fun k _ => h k⟩
theorem Ev.bindS {α β : Type} {g : Nat → Option α} {f : Nat → α → Option β} {a : α} {r : β} (h : Ev g a) (k : Ev (fun n => f n a) r) : Ev (fun n => (g n).bind (f n)) r := Ev.bind h k
theorem Ev.from {α : Type} {g : Nat → Option α} {r : α} (j : Nat) (h : ∀ k, g (k + j) = some r) : Ev g r := ⟨j, fun k hk => by have := h (k - j); rwa [Nat.sub_add_cancel hk] at this⟩
theorem Ev.to {α : Type} {g : Nat → Option α} {r : α} (h : Ev g r) : ∃ k, g k = some r := h.rounds
theorem Ev.at_ {α : Type} {g : Nat → Option α} {r : α} (hg : ∀ k, LeO (g k) (g (k + 1))) {j : Nat} (h : g j = some r) : Ev g r := Ev.of hg h
theorem Ev.suc {α : Type} {g : Nat → Option α} {r : α} (h : Ev (fun k => g (k + 1)) r) : Ev g r := Ev.step (fun _ => rfl) h

/-! ### right11 -/
theorem tl_nil_size {s : ByteArray} (h : s.toList = []) : s.size = 0 := by rw [dl] at h; rw [← dlen, h]; rfl
theorem key_eq {lv : Int} {keys : List ByteArray} {i : Nat} {a b c d : Bool} (ha : decide (0 < lv ∧ i = 0) = a) (hb : decide ((rdOf ByteArray.empty keys (i : Int)).toList = []) = b) (hc : decide ((rdOf ByteArray.empty keys (i : Int)).size ≤ 16) = c) (hd : (decide (i = 0) || Op.bytesLess (rdOf ByteArray.empty keys ((i - 1 : Nat) : Int)).toList (rdOf ByteArray.empty keys (i : Int)).toList) = d) : keyOk lv keys i = ((a == b) && (c && d)) := by
  unfold keyOk; rw [ha, hb, hc, hd]
theorem keyed_step (lv : Int) (keys vals : List ByteArray) (kids : List Int) (hl : keys.length ≤ 1000) (i : Nat) (hi : i < keys.length) (k : Nat) :
    page_Page_keyed.l0 (k + 1) (if 0 < lv then 1 else 0) keys (keys.length : Int) (i : Int) lv keys vals kids = if keyOk lv keys i = true then page_Page_keyed.l0 k (if 0 < lv then 1 else 0) keys (keys.length : Int) ((i + 1 : Nat) : Int) lv keys vals kids else some false := by
  have ew : wrap64 ((i : Int) + 1) = ((i + 1 : Nat) : Int) := by rw [w64 (by omega) (by omega)]; omega
  have hz := @tl_nil_size (rdOf ByteArray.empty keys (i : Int))
  rw [page_Page_keyed.l0]
  simp only [if_pos (show (i : Int) < (keys.length : Int) by omega), if_pos (show (0 : Int) ≤ (i : Int) by omega), ew]
  by_cases h0 : i = 0
  · simp only [if_neg (show ¬ (i : Int) > 0 by omega)]
    have hd : (decide (i = 0) || Op.bytesLess (rdOf ByteArray.empty keys ((i - 1 : Nat) : Int)).toList (rdOf ByteArray.empty keys (i : Int)).toList) = true := by rw [decide_eq_true h0]; rfl
    by_cases hlv : 0 < lv
    · simp only [if_pos hlv, if_pos (show (i : Int) < 1 by omega), if_neg (show ¬ (i : Int) ≥ 1 by omega)]
      by_cases E : (rdOf ByteArray.empty keys (i : Int)).toList = []
      · have := hz E
        rw [key_eq (decide_eq_true ⟨hlv, h0⟩) (decide_eq_true E) (decide_eq_true (by omega)) hd, if_pos E]; rfl
      · rw [key_eq (decide_eq_true ⟨hlv, h0⟩) (decide_eq_false E) rfl hd, if_neg E]; rfl
    · simp only [if_neg hlv, if_neg (show ¬ (i : Int) < 0 by omega), if_pos (show (i : Int) ≥ 0 by omega)]
      by_cases E : (rdOf ByteArray.empty keys (i : Int)).toList = []
      · rw [key_eq (decide_eq_false (fun h => hlv h.1)) (decide_eq_true E) rfl hd, if_pos E]; rfl
      · by_cases S : (rdOf ByteArray.empty keys (i : Int)).size ≤ 16
        · rw [key_eq (decide_eq_false (fun h => hlv h.1)) (decide_eq_false E) (decide_eq_true S) hd, if_neg E, if_neg (show ¬ ((rdOf ByteArray.empty keys (i : Int)).size : Int) > 16 by omega)]; rfl
        · rw [key_eq (decide_eq_false (fun h => hlv h.1)) (decide_eq_false E) (decide_eq_false S) hd, if_neg E, if_pos (show ((rdOf ByteArray.empty keys (i : Int)).size : Int) > 16 by omega)]; rfl
  · have eb : wrap64 ((i : Int) - 1) = ((i - 1 : Nat) : Int) := by rw [w64 (by omega) (by omega)]; omega
    have hf : (if 0 < lv then (1 : Int) else 0) ≤ (i : Int) := by split <;> omega
    generalize hfe : (if 0 < lv then (1 : Int) else 0) = fr at hf ⊢
    simp only [eb, if_pos (show (i : Int) > 0 by omega), if_neg (show ¬ (i : Int) < fr by omega), if_pos (show (i : Int) ≥ fr by omega), if_pos (show (0 : Int) ≤ ((i - 1 : Nat) : Int) by omega), if_pos (show ((i - 1 : Nat) : Int) < (keys.length : Int) by omega)]
    have ha : decide (0 < lv ∧ i = 0) = false := decide_eq_false (fun h => h0 h.2)
    by_cases E : (rdOf ByteArray.empty keys (i : Int)).toList = []
    · rw [key_eq ha (decide_eq_true E) rfl rfl, if_pos E]; rfl
    · by_cases S : (rdOf ByteArray.empty keys (i : Int)).size ≤ 16
      · rw [key_eq ha (decide_eq_false E) (decide_eq_true S) rfl, if_neg E, if_neg (show ¬ ((rdOf ByteArray.empty keys (i : Int)).size : Int) > 16 by omega), decide_eq_false h0]; rfl
      · rw [key_eq ha (decide_eq_false E) (decide_eq_false S) rfl, if_neg E, if_pos (show ((rdOf ByteArray.empty keys (i : Int)).size : Int) > 16 by omega)]; rfl
theorem keyed_ev (lv : Int) (keys vals : List ByteArray) (kids : List Int) (hl : keys.length ≤ 1000) : ∀ (d i : Nat), i + d = keys.length → Ev (fun k => page_Page_keyed.l0 k (if 0 < lv then 1 else 0) keys (keys.length : Int) (i : Int) lv keys vals kids) ((List.range' i d).all (keyOk lv keys)) := by
  intro d
  induction d with
  | zero =>
    intro i hi
    refine Ev.from 1 fun k => ?_
    rw [page_Page_keyed.l0, if_neg (by omega)]; rfl
  | succ d ih =>
    intro i hi
    refine Ev.suc ?_
    simp only [keyed_step lv keys vals kids hl i (by omega)]
    rw [show List.range' i (d + 1) = i :: List.range' (i + 1) d from rfl, List.all_cons]
    cases hk : keyOk lv keys i with
    | true => simp only [if_true, Bool.true_and]; exact ih (i + 1) (by omega)
    | false => simp only [Bool.false_eq_true, if_false, Bool.false_and]; exact Ev.now _
theorem anyLong_mem : ∀ l : List ByteArray, anyLong l = false ↔ ∀ v ∈ l, v.size ≤ 24
  | [] => by simp [anyLong]
  | v :: l => by
    rw [anyLong, Bool.or_eq_false_iff, anyLong_mem l, decide_eq_false_iff_not, List.forall_mem_cons]
    exact ⟨fun h => ⟨by have := h.1; omega, h.2⟩, fun h => ⟨by have := h.1; omega, h.2⟩⟩
theorem anyBad_mem : ∀ l : List Int, anyBad l = false ↔ ∀ v ∈ l, 1 ≤ v ∧ v ≤ 1023
  | [] => by simp [anyBad]
  | v :: l => by
    rw [anyBad, Bool.or_eq_false_iff, anyBad_mem l, Bool.or_eq_false_iff, decide_eq_false_iff_not, decide_eq_false_iff_not, List.forall_mem_cons]
    exact ⟨fun h => ⟨by have := h.1; omega, h.2⟩, fun h => ⟨by have := h.1; omega, h.2⟩⟩
theorem rdOf_at {α : Type} (e : α) (l : List α) (i : Nat) (h : i < l.length) : rdOf e l (i : Int) = l[i] := by
  unfold rdOf; rw [Int.toNat_natCast, List.getD_eq_getElem?_getD, List.getElem?_eq_getElem h]; rfl
theorem rd_at (l : List Int) (i : Nat) (h : i < l.length) : rd l (i : Int) = l[i] := by
  unfold rd; rw [Int.toNat_natCast, List.getD_eq_getElem?_getD, List.getElem?_eq_getElem h]; rfl
theorem mem_rdOf {l : List ByteArray} {P : ByteArray → Prop} : (∀ v ∈ l, P v) ↔ ∀ i, i < l.length → P (rdOf ByteArray.empty l (i : Int)) :=
  ⟨fun h i hi => by rw [rdOf_at _ l i hi]; exact h _ (List.getElem_mem hi), fun h v hv => by obtain ⟨i, hi, rfl⟩ := List.mem_iff_getElem.1 hv; have := h i hi; rwa [rdOf_at _ l i hi] at this⟩
theorem mem_rd {l : List Int} {P : Int → Prop} : (∀ v ∈ l, P v) ↔ ∀ i, i < l.length → P (rd l (i : Int)) :=
  ⟨fun h i hi => by rw [rd_at l i hi]; exact h _ (List.getElem_mem hi), fun h v hv => by obtain ⟨i, hi, rfl⟩ := List.mem_iff_getElem.1 hv; have := h i hi; rwa [rd_at l i hi] at this⟩
theorem all_r {p : Nat → Bool} {n : Nat} : (List.range' 0 n).all p = true ↔ ∀ i, i < n → p i = true := by
  rw [List.all_eq_true]
  exact ⟨fun h i hi => h i (List.mem_range'_1.2 ⟨Nat.zero_le _, by omega⟩), fun h i hi => h i (by have := (List.mem_range'_1.1 hi).2; omega)⟩
theorem all_side {keys : Nat → Bool} {side : Nat → Bool} {n : Nat} : (List.range' 0 n).all (fun i => keys i && side i) = ((List.range' 0 n).all keys && (List.range' 0 n).all side) := by
  rw [Bool.eq_iff_iff, Bool.and_eq_true, all_r, all_r, all_r]
  constructor
  · intro h; exact ⟨fun i hi => (Bool.and_eq_true _ _ ▸ h i hi : _ ∧ _).1, fun i hi => (Bool.and_eq_true _ _ ▸ h i hi : _ ∧ _).2⟩
  · intro h i hi; rw [Bool.and_eq_true]; exact ⟨h.1 i hi, h.2 i hi⟩
theorem all_row (lv : Int) (keys vals : List ByteArray) (kids : List Int) : (List.range' 0 keys.length).all (rowOk lv keys vals kids) = ((List.range' 0 keys.length).all (keyOk lv keys) && (List.range' 0 keys.length).all (sideOk lv vals kids)) := all_side
theorem side_leaf (vals : List ByteArray) (kids : List Int) : (List.range' 0 vals.length).all (sideOk 0 vals kids) = !(anyLong vals) := by
  rw [Bool.eq_iff_iff, all_r, Bool.not_eq_true', anyLong_mem, mem_rdOf]
  constructor
  · intro h i hi; have := h i hi; unfold sideOk at this; rw [if_pos rfl] at this; exact of_decide_eq_true this
  · intro h i hi; unfold sideOk; rw [if_pos rfl]; exact decide_eq_true (h i hi)
theorem side_up {lv : Int} (hlv : 0 < lv) (vals : List ByteArray) (kids : List Int) : (List.range' 0 kids.length).all (sideOk lv vals kids) = !(anyBad kids) := by
  rw [Bool.eq_iff_iff, all_r, Bool.not_eq_true', anyBad_mem, mem_rd]
  constructor
  · intro h i hi; have := h i hi; unfold sideOk at this; rw [if_neg (by omega)] at this; exact of_decide_eq_true this
  · intro h i hi; unfold sideOk; rw [if_neg (by omega)]; exact decide_eq_true (h i hi)
/-- Right, of the program. -/
theorem right_ev (lv : Int) (keys vals : List ByteArray) (kids : List Int) (hl : keys.length ≤ 1000) : Ev (fun k => page_Right.f k lv keys vals kids) (rightP lv keys vals kids) := by
  have hk := keyed_ev lv keys vals kids hl keys.length 0 (by omega)
  unfold page_Right.f page_Page_keyed.f rightP
  rw [all_row]
  by_cases h0 : lv = 0
  · subst h0
    simp only [eq_self, if_true]
    rw [if_neg (by decide)] at hk
    by_cases hA : keys.length ≤ 11 ∧ vals.length = keys.length ∧ kids.length = 0
    · rw [decide_eq_true (.inl ⟨trivial, hA⟩), Bool.true_and]
      have hs := side_leaf vals kids
      rw [hA.2.1] at hs
      rw [hs]
      cases ha : anyLong vals with
      | false => simp only [eq_self, if_pos (show keys.length ≤ 11 ∧ vals.length = keys.length ∧ kids.length = 0 ∧ True from ⟨hA.1, hA.2.1, hA.2.2, trivial⟩), Bool.not_false, Bool.and_true]; exact hk
      | true => simp only [if_neg (show ¬ (keys.length ≤ 11 ∧ vals.length = keys.length ∧ kids.length = 0 ∧ true = false) from fun h => nomatch h.2.2.2), Bool.not_true, Bool.and_false]; exact Ev.now _
    · rw [decide_eq_false (by omega), Bool.false_and]
      simp only [if_neg (show ¬ (keys.length ≤ 11 ∧ vals.length = keys.length ∧ kids.length = 0 ∧ anyLong vals = false) from fun h => hA ⟨h.1, h.2.1, h.2.2.1⟩)]
      exact Ev.now _
  · simp only [if_neg h0]
    by_cases hA : 0 < lv ∧ lv ≤ 5 ∧ 2 ≤ keys.length ∧ keys.length ≤ 25 ∧ kids.length = keys.length ∧ vals.length = 0
    · rw [decide_eq_true (.inr hA), Bool.true_and]
      rw [if_pos hA.1] at hk
      have hs := side_up hA.1 vals kids
      rw [hA.2.2.2.2.1] at hs
      rw [hs]
      cases ha : anyBad kids with
      | false => simp only [if_pos (show 0 < lv ∧ lv < 6 ∧ 2 ≤ keys.length ∧ keys.length ≤ 25 ∧ kids.length = keys.length ∧ vals.length = 0 ∧ True from ⟨hA.1, by omega, hA.2.2.1, hA.2.2.2.1, hA.2.2.2.2.1, hA.2.2.2.2.2, trivial⟩), eq_self, Bool.not_false, Bool.and_true]; exact hk
      | true => simp only [if_neg (show ¬ (0 < lv ∧ lv < 6 ∧ 2 ≤ keys.length ∧ keys.length ≤ 25 ∧ kids.length = keys.length ∧ vals.length = 0 ∧ true = false) from fun h => nomatch h.2.2.2.2.2.2), Bool.not_true, Bool.and_false]; exact Ev.now _
    · rw [decide_eq_false (by omega), Bool.false_and]
      simp only [if_neg (show ¬ (0 < lv ∧ lv < 6 ∧ 2 ≤ keys.length ∧ keys.length ≤ 25 ∧ kids.length = keys.length ∧ vals.length = 0 ∧ anyBad kids = false) from fun h => hA ⟨h.1, by omega, h.2.2.1, h.2.2.2.1, h.2.2.2.2.1, h.2.2.2.2.2.1⟩)]
      exact Ev.now _
/-! ### le -/
/-- The bytes of a number, the lowest first. -/
def leB : Nat → Nat → List UInt8
  | 0, _ => []
  | s + 1, n => UInt8.ofNat (n % 256) :: leB s (n / 256)
theorem leB_len : ∀ s n, (leB s n).length = s
  | 0, _ => rfl
  | s + 1, n => by rw [leB, List.length_cons, leB_len s]
/-- .. and back. -/
def unB : List UInt8 → Nat
  | [] => 0
  | b :: r => b.toNat + 256 * unB r
theorem unB_leB : ∀ s n, unB (leB s n) = n % 256 ^ s
  | 0, n => by simp [leB, unB, Nat.mod_one]
  | s + 1, n => by
    rw [leB, unB, unB_leB s]
    have h1 : (UInt8.ofNat (n % 256)).toNat = n % 256 := by simp
    rw [h1, Nat.pow_succ', Nat.mod_mul]
theorem unB_lt : ∀ l : List UInt8, unB l < 256 ^ l.length
  | [] => by simp [unB]
  | b :: r => by
    have := unB_lt r
    have := b.toNat_lt
    rw [unB, List.length_cons, Nat.pow_succ]
    omega
theorem leB_unB : ∀ l : List UInt8, leB l.length (unB l) = l
  | [] => rfl
  | b :: r => by
    have hb := b.toNat_lt
    rw [unB, List.length_cons, leB]
    have h1 : (b.toNat + 256 * unB r) % 256 = b.toNat := by omega
    have h2 : (b.toNat + 256 * unB r) / 256 = unB r := by omega
    rw [h1, h2, leB_unB r]; simp
theorem leB_get : ∀ (s n j : Nat), j < s → (leB s n)[j]? = some (UInt8.ofNat (n / 256 ^ j % 256))
  | s + 1, n, 0, _ => by simp [leB]
  | s + 1, n, j + 1, h => by
    rw [leB, List.getElem?_cons_succ, leB_get s _ j (by omega), Nat.div_div_eq_div_mul, Nat.pow_succ']
/-- What Put answers. -/
def lePutS (n size : Int) : ByteArray := if 1 ≤ size ∧ size ≤ 7 ∧ 0 ≤ n ∧ n < 256 ^ size.toNat then ⟨(leB size.toNat n.toNat).toArray⟩ else ⟨#[]⟩
/-- The row that Put fills, behind i rounds. -/
def leRow (n : Int) (size i : Nat) : List Int := (List.range size).map fun j => if j < i then n / 256 ^ j % 256 else 0
theorem leRow_len (n : Int) (size i : Nat) : (leRow n size i).length = size := by simp [leRow]
theorem leRow_set (n : Int) (size i : Nat) (_ : i < size) : (leRow n size i).set i (n / 256 ^ i % 256) = leRow n size (i + 1) := by
  apply List.ext_getElem
  · simp [leRow]
  · intro j h1 h2
    simp only [leRow, List.length_map, List.length_range, List.length_set] at h1 h2
    rw [List.getElem_set]
    simp only [leRow, List.getElem_map, List.getElem_range]
    by_cases e : i = j
    · subst e; simp
    · rw [if_neg e]
      by_cases hj : j < i
      · rw [if_pos hj, if_pos (by omega)]
      · rw [if_neg hj, if_neg (by omega)]
theorem divcast (m s : Nat) : (m : Int) / 256 ^ s = ((m / 256 ^ s : Nat) : Int) := by
  rw [Int.natCast_ediv]; congr 1
theorem leRow_full (n : Nat) (size : Nat) : Go.strOfNums (leRow n size size) = ⟨(leB size n).toArray⟩ := by
  unfold Go.strOfNums
  congr 2
  apply List.ext_getElem?
  intro j
  by_cases hj : j < size
  · rw [leB_get _ _ _ hj, leRow, List.getElem?_map, List.getElem?_map, List.getElem?_range hj]
    simp only [Option.map_some, if_pos hj]
    have : ((n : Int) / 256 ^ j % 256).toNat = n / 256 ^ j % 256 := by
      have h1 : ((n : Int) / 256 ^ j % 256) = ((n / 256 ^ j % 256 : Nat) : Int) := by rw [divcast]; rfl
      rw [h1, Int.toNat_natCast]
    rw [this]
  · rw [List.getElem?_eq_none (by simp [leRow]; omega), List.getElem?_eq_none (by rw [leB_len]; omega)]
theorem shr_pow (n : Int) (i : Nat) (hi : i ≤ 7) : shr .i64 n (wrap64 (8 * (i : Int))) = n / 256 ^ i := by
  rw [w64 (by omega) (by omega)]
  unfold shr
  have h1 : min (8 * (i : Int)).toNat (IntKind.bits .i64) = 8 * i := by
    have h2 : (8 * (i : Int)).toNat = 8 * i := by omega
    rw [h2]; show min (8 * i) 64 = 8 * i; omega
  rw [h1]
  have h3 : (2 : Int) ^ (8 * i) = 256 ^ i := by
    have h := congrArg (fun x : Nat => (x : Int)) (Nat.pow_mul 2 8 i)
    simp only [Int.natCast_pow] at h
    exact h
  rw [h3]
theorem le_Put_loop (n : Int) (size : Nat) (hs : size ≤ 7) (h0 : 0 ≤ n) : ∀ (d i : Nat), i + d = size → Ev (fun k => le_Put.l0 k n (leRow n size i) (size : Int) (i : Int)) (Go.strOfNums (leRow n size size)) := by
  intro d
  induction d with
  | zero =>
    intro i hi
    obtain rfl : i = size := by omega
    refine Ev.from 1 fun k => ?_
    rw [le_Put.l0, if_neg (by omega)]
  | succ d ih =>
    intro i hi
    refine Ev.step (f := fun k => le_Put.l0 k n (leRow n size (i + 1)) (size : Int) ((i + 1 : Nat) : Int)) (fun k => ?_) (ih (i + 1) (by omega))
    have e1 : wrap64 (8 * (i : Int)) = 8 * (i : Int) := w64 (by omega) (by omega)
    have e2 : wrap64 ((i : Int) + 1) = ((i + 1 : Nat) : Int) := by rw [w64 (by omega) (by omega)]; omega
    rw [le_Put.l0, if_pos (by omega), if_pos (by rw [e1]; omega), if_pos (by omega), if_pos (by rw [leRow_len]; omega), e2, shr_pow n i (by omega), Int.toNat_natCast, leRow_set n size i (by omega)]
theorem le_Put_ev (n size : Int) (hn : (Lit.int .i64 n).wf = true) : Ev (fun k => le_Put.f k n size) (lePutS n size) := by
  have bn := i64b hn
  have bad : ∀ (n size : Int), ¬ (1 ≤ size ∧ size ≤ 7 ∧ 0 ≤ n ∧ n < 256 ^ size.toNat) → Ev (fun k => le_Put.j0 k n size true) (lePutS n size) := by
    intro n size h
    refine Ev.from 1 fun k => ?_
    rw [le_Put.j0, if_pos rfl, lePutS, if_neg h]
  unfold le_Put.f
  by_cases h1 : size < 1
  · simp only [if_pos h1]; exact bad n size (by omega)
  · by_cases h2 : size > 7
    · simp only [if_neg h1, if_pos h2]; exact bad n size (by omega)
    · by_cases h3 : n < 0
      · simp only [if_neg h1, if_neg h2, if_pos h3]; exact bad n size (by omega)
      · obtain ⟨s, rfl⟩ := Int.eq_ofNat_of_zero_le (show 0 ≤ size by omega)
        obtain ⟨m, rfl⟩ := Int.eq_ofNat_of_zero_le (show 0 ≤ n by omega)
        have e1 : wrap64 (8 * (s : Int)) = 8 * (s : Int) := w64 (by omega) (by omega)
        simp only [if_neg h1, if_neg h2, if_neg h3, if_pos (show 0 ≤ wrap64 (8 * (s : Int)) by rw [e1]; omega)]
        rw [shr_pow _ s (by omega)]
        by_cases h4 : m < 256 ^ s
        · have e3 : ((m : Int) / 256 ^ s != 0) = false := by
            rw [divcast, Nat.div_eq_of_lt h4]; rfl
          rw [e3]
          refine Ev.step (f := fun k => le_Put.l0 k (m : Int) (leRow m s 0) (s : Int) ((0 : Nat) : Int)) (fun k => ?_) ?_
          · rw [le_Put.j0, if_neg (by decide), if_pos (by omega), if_pos (by omega)]
            have e4 : (List.replicate (s : Int).toNat 0 : List Int) = leRow m s 0 := by
              rw [Int.toNat_natCast]
              apply List.ext_getElem
              · simp [leRow]
              · intro j h1 h2; simp [leRow]
            simp only [Option.bind_some, e4, leRow_len]
            rfl
          · have := le_Put_loop (m : Int) s (by omega) (by omega) s 0 (by omega)
            rw [leRow_full] at this
            have e5 : lePutS (m : Int) (s : Int) = ⟨(leB s m).toArray⟩ := by
              unfold lePutS
              rw [if_pos ⟨by omega, by omega, by omega, by rw [Int.toNat_natCast]; have h' := Int.ofNat_lt.2 h4; rw [Int.natCast_pow] at h'; exact h'⟩, Int.toNat_natCast, Int.toNat_natCast]
            rw [e5]; exact this
        · have e3 : ((m : Int) / 256 ^ s != 0) = true := by
            rw [divcast, bne_iff_ne]
            have : 0 < m / 256 ^ s := Nat.div_pos (by omega) (Nat.pow_pos (by decide))
            omega
          rw [e3]
          refine bad _ _ ?_
          rw [Int.toNat_natCast]
          intro ⟨_, _, _, h⟩
          have h' : ((m : Nat) : Int) < ((256 ^ s : Nat) : Int) := by rw [Int.natCast_pow]; exact h
          exact h4 (Int.ofNat_lt.1 h')

/-! ### bt -/
theorem bt_at_nat (s : ByteArray) (i : Nat) (h : i < s.data.toList.length) : bt s (i : Int) = ((s.data.toList[i]).toNat : Int) := by
  have h' : i < s.size := by rw [← dlen]; exact h
  unfold bt
  rw [Int.toNat_natCast, dif_pos h', Array.getElem_toList]; rfl

/-! ### markseal -/
theorem sumOfL_lt (l : List UInt8) : sumOfL l < 4294967296 := by unfold sumOfL; omega
/-- The sum's bytes. -/
def sumB (l : List UInt8) : List UInt8 := leB 4 (sumOfL l)
/-- The head's bytes. -/
def headB (kind : Nat) : List UInt8 := [80, 72, UInt8.ofNat (kind % 256), 0]
theorem wf_of {n : Int} (h0 : -9223372036854775808 ≤ n) (h1 : n ≤ 9223372036854775807) : (Lit.int .i64 n).wf = true := by
  have := wrap64_wf n
  rwa [w64 h0 h1] at this
theorem sumOf_ev (s : ByteArray) (hs : s.size ≤ 140737488355328) : Ev (fun k => mark_sumOf.f k s) ⟨(sumB s.data.toList).toArray⟩ := by
  have h := sumOfL_lt s.data.toList
  unfold mark_sumOf.f mark_Sum.f
  rw [if_pos hs]
  refine Ev.bind (Ev.now _) ?_
  rw [w64 (by omega) (by omega)]
  have e : lePutS (sumOfL s.data.toList : Int) 4 = ⟨(sumB s.data.toList).toArray⟩ := by
    unfold lePutS sumB
    rw [if_pos ⟨by omega, by omega, by omega, by show (sumOfL s.data.toList : Int) < 256 ^ 4; omega⟩]; rfl
  rw [← e]
  refine Ev.bind (le_Put_ev _ 4 (wf_of (by omega) (by omega))) (Ev.now _)
theorem head_ev (kind : Int) (h1 : 1 ≤ kind) (h2 : kind ≤ 255) : Ev (fun k => mark_head.f k kind) ⟨(headB kind.toNat).toArray⟩ := by
  have e : lePutS kind 1 = ⟨#[UInt8.ofNat (kind.toNat % 256)]⟩ := by
    unfold lePutS
    rw [if_pos ⟨by omega, by omega, by omega, by show kind < 256 ^ 1; omega⟩]; rfl
  unfold mark_head.f
  refine Ev.bind (le_Put_ev kind 1 (wf_of (by omega) (by omega))) ?_
  rw [e]
  have es : (⟨#[UInt8.ofNat (kind.toNat % 256)]⟩ : ByteArray).size = 1 := rfl
  rw [if_pos (by rw [es]; decide), if_pos (by rw [ByteArray.size_append, es]; decide)]
  have e2 : (⟨#[80, 72]⟩ : ByteArray) ++ ⟨#[UInt8.ofNat (kind.toNat % 256)]⟩ ++ ⟨#[0]⟩ = ⟨(headB kind.toNat).toArray⟩ := by
    rw [deq]; simp [dapp, headB]
  rw [e2]; exact Ev.now _
theorem repeat_zero (c : Int) (h0 : 0 ≤ c) (h1 : c ≤ 140737488355328) : strings_Repeat.f ⟨#[0]⟩ c = some (zerosB c.toNat) := by
  unfold strings_Repeat.f
  rw [if_pos ⟨h0, by show ((1 : Nat) : Int) * c ≤ _; omega, by omega⟩, show (⟨#[0]⟩ : ByteArray).data.toList = [0] from rfl, repeat0]; rfl
/-- What is summed. -/
def bodyL (kind : Nat) (body : List UInt8) : List UInt8 := headB kind ++ body ++ List.replicate (504 - body.length) 0
/-- A sealed sector. -/
def sealL (kind : Nat) (body : List UInt8) : List UInt8 := bodyL kind body ++ sumB (bodyL kind body)
/-- What Seal answers. -/
def sealS (kind : Int) (body : ByteArray) : ByteArray × Option Int := if kind < 1 ∨ kind > 255 then (⟨#[]⟩, some 1) else if body.size > 504 then (⟨#[]⟩, some 10) else (⟨(sealL kind.toNat body.data.toList).toArray⟩, none)
theorem bodyL_len (kind : Nat) (body : List UInt8) (h : body.length ≤ 504) : (bodyL kind body).length = 508 := by
  simp [bodyL, headB]; omega
theorem sealL_len (kind : Nat) (body : List UInt8) (h : body.length ≤ 504) : (sealL kind body).length = 512 := by
  unfold sealL
  rw [List.length_append, bodyL_len kind body h]; rfl
theorem mark_Seal_ev (kind : Int) (body : ByteArray) : Ev (fun k => mark_Seal.f k kind body) (sealS kind body) := by
  have bad : kind < 1 ∨ kind > 255 → Ev (fun k => mark_Seal.j0 k kind body true) (sealS kind body) := fun h => by
    refine Ev.from 1 fun k => ?_
    rw [mark_Seal.j0, if_pos rfl, sealS, if_pos h]
  unfold mark_Seal.f
  by_cases h1 : kind < 1
  · simp only [if_pos h1]; exact bad (.inl h1)
  · simp only [if_neg h1]
    by_cases h2 : kind > 255
    · rw [decide_eq_true h2]; exact bad (.inr h2)
    · rw [decide_eq_false h2]
      unfold sealS
      rw [if_neg (by omega)]
      refine Ev.step (fun k => by rw [mark_Seal.j0, if_neg (by decide)]) ?_
      by_cases h3 : body.size > 504
      · simp only [if_pos (show (body.size : Int) > 504 by omega), if_pos h3]; exact Ev.now _
      · simp only [if_neg (show ¬ (body.size : Int) > 504 by omega), if_neg h3]
        have hs1 : (⟨(headB kind.toNat).toArray⟩ : ByteArray).size = 4 := rfl
        refine Ev.bind (head_ev kind (by omega) (by omega)) ?_
        simp only [if_pos (show (⟨(headB kind.toNat).toArray⟩ : ByteArray).size + body.size ≤ 9223372036854775807 by rw [hs1]; omega)]
        rw [w64 (by omega) (by omega), repeat_zero _ (by omega) (by omega)]
        refine Ev.bind (Ev.now _) ?_
        have hz : (zerosB (504 - (body.size : Int)).toNat).size = 504 - body.size := by rw [zerosB_size]; omega
        have e : (⟨(headB kind.toNat).toArray⟩ : ByteArray) ++ body ++ zerosB (504 - (body.size : Int)).toNat = ⟨(bodyL kind.toNat body.data.toList).toArray⟩ := by
          rw [deq, dapp, dapp]
          show headB kind.toNat ++ body.data.toList ++ List.replicate (504 - (body.size : Int)).toNat 0 = bodyL kind.toNat body.data.toList
          unfold bodyL
          rw [dlen, show (504 - (body.size : Int)).toNat = 504 - body.size by omega]
        have es : (⟨(bodyL kind.toNat body.data.toList).toArray⟩ : ByteArray).size = 508 := by
          rw [← dlen]; exact bodyL_len _ _ (by rw [dlen]; omega)
        simp only [if_pos (show ((⟨(headB kind.toNat).toArray⟩ : ByteArray) ++ body).size + (zerosB (504 - (body.size : Int)).toNat).size ≤ 9223372036854775807 by rw [ByteArray.size_append, hs1, hz]; omega)]
        rw [e]
        refine Ev.bind (sumOf_ev _ (by rw [es]; decide)) ?_
        have e4 : ∀ l : List UInt8, (⟨(sumB l).toArray⟩ : ByteArray).size = 4 := fun l => rfl
        simp only [if_pos (show (⟨(bodyL kind.toNat body.data.toList).toArray⟩ : ByteArray).size + (⟨(sumB (bodyL kind.toNat body.data.toList)).toArray⟩ : ByteArray).size ≤ 9223372036854775807 by rw [es, e4]; decide)]
        have e5 : (⟨(bodyL kind.toNat body.data.toList).toArray⟩ : ByteArray) ++ ⟨(sumB (bodyL kind.toNat body.data.toList)).toArray⟩ = ⟨(sealL kind.toNat body.data.toList).toArray⟩ := by
          rw [deq, dapp]; rfl
        rw [e5]; exact Ev.now _

/-! ### lf03 -/
/-- One bit of the register. -/
def lf (x : Nat) : Nat := x / 2 ^^^ (if x % 2 = 1 then 2197175160 else 0)
def lfs : Nat → Nat → Nat
  | 0, x => x
  | d + 1, x => lfs d (lf x)
theorem lf_xor (x y : Nat) : lf (x ^^^ y) = lf x ^^^ lf y := by
  unfold lf
  rw [Nat.xor_div_two]
  have hm : (x ^^^ y) % 2 = (x % 2 + y % 2) % 2 := by
    have h := Nat.testBit_xor x y 0
    simp only [Nat.testBit_zero] at h
    rcases Nat.mod_two_eq_zero_or_one x with hx | hx <;> rcases Nat.mod_two_eq_zero_or_one y with hy | hy <;> rcases Nat.mod_two_eq_zero_or_one (x ^^^ y) with hz | hz <;> simp_all
  have e : ∀ a b p : Nat, a ^^^ p ^^^ (b ^^^ p) = a ^^^ b := fun a b p => by
    rw [Nat.xor_assoc, ← Nat.xor_assoc p b p, Nat.xor_comm p b, Nat.xor_assoc b p p, Nat.xor_self, Nat.xor_zero]
  have e2 : ∀ a b p : Nat, a ^^^ b ^^^ p = a ^^^ p ^^^ b := fun a b p => by rw [Nat.xor_assoc, Nat.xor_comm b, ← Nat.xor_assoc]
  rcases Nat.mod_two_eq_zero_or_one x with hx | hx <;> rcases Nat.mod_two_eq_zero_or_one y with hy | hy
  · rw [if_neg (by omega), if_neg (by omega), if_neg (by omega), Nat.xor_zero, Nat.xor_zero, Nat.xor_zero]
  · rw [if_pos (by omega), if_neg (by omega), if_pos (by omega), Nat.xor_zero, Nat.xor_assoc]
  · rw [if_pos (by omega), if_pos (by omega), if_neg (by omega), Nat.xor_zero, e2]
  · rw [if_neg (by omega), if_pos (by omega), if_pos (by omega), Nat.xor_zero, e]
theorem lfs_xor : ∀ d x y, lfs d (x ^^^ y) = lfs d x ^^^ lfs d y
  | 0, _, _ => rfl
  | d + 1, x, y => by rw [lfs, lfs, lfs, lf_xor, lfs_xor d]
theorem lf_two (q : Nat) : lf (2 * q) = q := by
  unfold lf
  rw [if_neg (by omega), Nat.xor_zero]; omega
theorem lfs4 (q : Nat) : lfs 4 (16 * q) = q := by
  show lf (lf (lf (lf (16 * q)))) = q
  rw [show 16 * q = 2 * (2 * (2 * (2 * q))) by omega, lf_two, lf_two, lf_two, lf_two]
theorem split16 (x : Nat) : x = (16 * (x / 16)) ^^^ (x % 16) := by
  have h := Nat.shiftLeft_add_eq_or_of_lt (show x % 16 < 2 ^ 4 by omega) (x / 16)
  have hd : (x / 16) <<< 4 &&& (x % 16) = 0 := by
    apply Nat.eq_of_testBit_eq
    intro i
    rw [Nat.testBit_and, Nat.zero_testBit, Nat.testBit_shiftLeft]
    by_cases hi : i ≥ 4
    · have : (x % 16).testBit i = false := Nat.testBit_lt_two_pow (Nat.lt_of_lt_of_le (show x % 16 < 2 ^ 4 by omega) (Nat.pow_le_pow_right (by decide) hi))
      rw [this, Bool.and_false]
    · simp [hi]
  have hx : (x / 16) <<< 4 ^^^ (x % 16) = (x / 16) <<< 4 ||| (x % 16) := by
    apply Nat.eq_of_testBit_eq
    intro i
    have h2 := congrArg (fun n => n.testBit i) hd
    simp only [Nat.testBit_and, Nat.zero_testBit] at h2
    rw [Nat.testBit_xor, Nat.testBit_or]
    cases h3 : ((x / 16) <<< 4).testBit i <;> cases h4 : (x % 16).testBit i <;> simp_all
  rw [Nat.shiftLeft_eq] at h hx
  rw [show 16 * (x / 16) = x / 16 * 2 ^ 4 by omega, hx, ← h]; omega
theorem nib_lfs (x : Nat) : nibStep x = lfs 4 x := by
  have h : ∀ i : Fin 16, lfs 4 i.val = nibs.getD i.val 0 := by decide +kernel
  have h2 : lfs 4 (x % 16) = nibs.getD (x % 16) 0 := h ⟨x % 16, Nat.mod_lt _ (by decide)⟩
  unfold nibStep
  rw [← h2]
  have h3 := congrArg (lfs 4) (split16 x)
  rw [lfs_xor, lfs4] at h3
  exact h3.symm
theorem sum_lfs (r b : Nat) : sumStep r b = lfs 8 (r ^^^ b) := by
  unfold sumStep
  rw [nib_lfs, nib_lfs]; rfl

/-! ### sum03 -/
theorem ref_bit (R c : Nat) (hR : R < 4294967296) (hc : c < 4294967296) : (Int.tmod (Go.bits .xor .u32 (R : Int) (c : Int)) 2 = 1) = ((R ^^^ c) % 2 = 1) := by
  rw [xor_u32 R c hR hc, Int.tmod_eq_emod_of_nonneg (by omega)]
  apply propext
  constructor <;> intro h <;> omega
/-! ### ref01put -/
theorem leB_snoc : ∀ (i m : Nat), leB (i + 1) m = leB i m ++ [UInt8.ofNat (m / 256 ^ i % 256)]
  | 0, m => by simp [leB]
  | i + 1, m => by
    have h := leB_snoc i (m / 256)
    show UInt8.ofNat (m % 256) :: leB (i + 1) (m / 256) = (UInt8.ofNat (m % 256) :: leB i (m / 256)) ++ [UInt8.ofNat (m / 256 ^ (i + 1) % 256)]
    rw [h, Nat.div_div_eq_div_mul, Nat.pow_succ']; rfl
/-! ### seal03 -/
/-- What the document's Seal answers. -/
def refSeal (kind : Int) (body : ByteArray) : ByteArray × Int := if kind < 1 ∨ kind > 255 then (⟨#[]⟩, 1) else if body.size > 504 then (⟨#[]⟩, 10) else (⟨(sealL kind.toNat body.data.toList).toArray⟩, 0)
/-! ### bytes -/
def bB (sz n : Nat) : ByteArray := ⟨(leB sz n).toArray⟩
theorem bB_size (sz n : Nat) : (bB sz n).size = sz := by rw [← dlen]; show ((leB sz n).toArray).toList.length = sz; simp [leB_len]
theorem bB_list (sz n : Nat) : (bB sz n).data.toList = leB sz n := rfl
theorem lePutS_in (n : Int) (sz : Nat) (m : Int) (hm : (256 : Int) ^ sz = m) (h1 : 1 ≤ sz) (h7 : sz ≤ 7) (h0 : 0 ≤ n) (hn : n < m) : lePutS n (sz : Int) = bB sz n.toNat := by
  unfold lePutS
  rw [if_pos ⟨by omega, by omega, h0, by rw [Int.toNat_natCast, hm]; exact hn⟩, Int.toNat_natCast]; rfl
theorem put6p (n : Int) (h0 : 0 ≤ n) (hn : n < 281474976710656) : Ev (fun k => le_Put.f k n 6) (bB 6 n.toNat) :=
  lePutS_in n 6 281474976710656 (by decide) (by decide) (by decide) h0 hn ▸ le_Put_ev n 6 (wf_of (n := n) (by omega) (by omega))
theorem put1p (n : Int) (h0 : 0 ≤ n) (hn : n < 256) : Ev (fun k => le_Put.f k n 1) (bB 1 n.toNat) :=
  lePutS_in n 1 256 (by decide) (by decide) (by decide) h0 hn ▸ le_Put_ev n 1 (wf_of (n := n) (by omega) (by omega))
theorem put2p (n : Int) (h0 : 0 ≤ n) (hn : n < 65536) : Ev (fun k => le_Put.f k n 2) (bB 2 n.toNat) :=
  lePutS_in n 2 65536 (by decide) (by decide) (by decide) h0 hn ▸ le_Put_ev n 2 (wf_of (n := n) (by omega) (by omega))
/-! ### put11 -/
/-- An entry's bytes. -/
def entL (key val : ByteArray) : List UInt8 := leB 1 key.size ++ (leB 1 val.size ++ ((key.data.toList ++ List.replicate (16 - key.size) 0) ++ (val.data.toList ++ List.replicate (24 - val.size) 0)))
def entU (key : ByteArray) (kid : Int) : List UInt8 := leB 1 key.size ++ (leB 2 kid.toNat ++ (leB 1 0 ++ (key.data.toList ++ List.replicate (16 - key.size) 0)))
def ent (lv : Int) (keys vals : List ByteArray) (kids : List Int) (i : Nat) : List UInt8 :=
  if lv = 0 then entL (rdOf ByteArray.empty keys (i : Int)) (rdOf ByteArray.empty vals (i : Int)) else entU (rdOf ByteArray.empty keys (i : Int)) (rd kids (i : Int))
/-- A page's bytes. -/
def headP (lv : Int) (n : Nat) : List UInt8 := leB 1 (if 0 < lv then 2 else 1) ++ leB 1 n ++ leB 1 lv.toNat ++ leB 1 0
def putP (lv : Int) (keys vals : List ByteArray) (kids : List Int) : List UInt8 := headP lv keys.length ++ (List.range' 0 keys.length).flatMap (ent lv keys vals kids)
def entN (lv : Int) : Nat := if lv = 0 then 42 else 20
/-- What a right page is. -/
structure PgOk (lv : Int) (keys vals : List ByteArray) (kids : List Int) : Prop where
  shape : (lv = 0 ∧ keys.length ≤ 11 ∧ vals.length = keys.length ∧ kids.length = 0) ∨ (0 < lv ∧ lv ≤ 5 ∧ 2 ≤ keys.length ∧ keys.length ≤ 25 ∧ kids.length = keys.length ∧ vals.length = 0)
  key : ∀ i, i < keys.length → (rdOf ByteArray.empty keys (i : Int)).size ≤ 16
  val : lv = 0 → ∀ i, i < keys.length → (rdOf ByteArray.empty vals (i : Int)).size ≤ 24
  kid : 0 < lv → ∀ i, i < keys.length → 1 ≤ rd kids (i : Int) ∧ rd kids (i : Int) ≤ 1023
theorem pgOk {lv : Int} {keys vals : List ByteArray} {kids : List Int} (h : rightP lv keys vals kids = true) : PgOk lv keys vals kids := by
  unfold rightP at h
  rw [Bool.and_eq_true, decide_eq_true_iff, all_r] at h
  have hr : ∀ i, i < keys.length → (rdOf ByteArray.empty keys (i : Int)).size ≤ 16 ∧ sideOk lv vals kids i = true := fun i hi => by
    have := h.2 i hi
    unfold rowOk keyOk at this
    simp only [Bool.and_eq_true, decide_eq_true_iff] at this
    exact ⟨this.1.2.1, this.2⟩
  refine ⟨h.1, fun i hi => (hr i hi).1, fun h0 i hi => ?_, fun h0 i hi => ?_⟩
  · have := (hr i hi).2
    unfold sideOk at this
    rw [if_pos h0] at this
    exact of_decide_eq_true this
  · have := (hr i hi).2
    unfold sideOk at this
    rw [if_neg (by omega)] at this
    exact of_decide_eq_true this
theorem ent_len {lv : Int} {keys vals : List ByteArray} {kids : List Int} (h : PgOk lv keys vals kids) (i : Nat) (hi : i < keys.length) : (ent lv keys vals kids i).length = entN lv := by
  have hk := h.key i hi
  unfold ent entN
  split
  · rename_i h0
    have hv := h.val h0 i hi
    unfold entL
    simp only [List.length_append, leB_len, dlen, List.length_replicate]; omega
  · unfold entU
    simp only [List.length_append, leB_len, dlen, List.length_replicate]; omega
theorem ents_len {lv : Int} {keys vals : List ByteArray} {kids : List Int} (h : PgOk lv keys vals kids) : ∀ (d i : Nat), i + d = keys.length → ((List.range' i d).flatMap (ent lv keys vals kids)).length = entN lv * d
  | 0, i, _ => rfl
  | d + 1, i, hi => by
    rw [show List.range' i (d + 1) = i :: List.range' (i + 1) d from rfl, List.flatMap_cons, List.length_append, ent_len h i (by omega), ents_len h d (i + 1) (by omega), Nat.mul_succ]; omega
theorem ent_fit {lv : Int} {keys vals : List ByteArray} {kids : List Int} (h : PgOk lv keys vals kids) : entN lv * keys.length ≤ 500 := by
  unfold entN
  split
  · rename_i h0
    have := h.shape
    omega
  · have := h.shape
    omega
theorem headP_len (lv : Int) (n : Nat) : (headP lv n).length = 4 := by unfold headP; simp only [List.length_append, leB_len]
theorem putP_len {lv : Int} {keys vals : List ByteArray} {kids : List Int} (h : PgOk lv keys vals kids) : (putP lv keys vals kids).length = 4 + entN lv * keys.length := by
  unfold putP
  rw [List.length_append, headP_len, ents_len h keys.length 0 (by omega)]
theorem numO1 (n : Int) (acc : ByteArray) (h0 : 0 ≤ n) (hn : n < 256) (ha : acc.size ≤ 1000) : Ev (fun k => numO k n 1 acc) (acc ++ bB 1 n.toNat) := by
  unfold numO
  refine Ev.bind (put1p n h0 hn) ?_
  simp only [bB_size, if_pos (show 0 < 1 ∧ acc.size + 1 ≤ 2000 by omega)]
  exact Ev.now _
theorem numO2 (n : Int) (acc : ByteArray) (h0 : 0 ≤ n) (hn : n < 65536) (ha : acc.size ≤ 1000) : Ev (fun k => numO k n 2 acc) (acc ++ bB 2 n.toNat) := by
  unfold numO
  refine Ev.bind (put2p n h0 hn) ?_
  simp only [bB_size, if_pos (show 0 < 2 ∧ acc.size + 2 ≤ 2000 by omega)]
  exact Ev.now _
theorem textO_ok (s acc : ByteArray) (size : Nat) (hs : s.size ≤ size) (ha : acc.size + size ≤ 2000) : textO s size acc = some (acc ++ (s ++ zerosB (size - s.size))) := by
  unfold textO; rw [if_pos ⟨hs, ha⟩]
theorem zerosB_list (n : Nat) : (zerosB n).data.toList = List.replicate n 0 := rfl
theorem zerosB_size (n : Nat) : (zerosB n).size = n := by rw [← dlen, zerosB_list, List.length_replicate]
theorem put_loop {lv : Int} {keys vals : List ByteArray} {kids : List Int} (h : PgOk lv keys vals kids) : ∀ (d i : Nat) (acc : ByteArray), i + d = keys.length → acc.size + entN lv * d ≤ 504 →
    Ev (fun k => page_Put.l0 k (decide (lv ≤ 0)) vals kids (keys.drop i) i acc) ⟨(acc.data.toList ++ (List.range' i d).flatMap (ent lv keys vals kids)).toArray⟩ := by
  intro d
  induction d with
  | zero =>
    intro i acc hi _
    rw [List.drop_eq_nil_of_le (by omega)]
    have : (⟨(acc.data.toList ++ (List.range' i 0).flatMap (ent lv keys vals kids)).toArray⟩ : ByteArray) = acc := by rw [deq]; simp
    rw [this]
    exact Ev.now _
  | succ d ih =>
    intro i acc hi ha
    have hk := h.key i (by omega)
    rw [Nat.mul_succ] at ha
    have hfl : ∀ acc' : ByteArray, acc'.data.toList = acc.data.toList ++ ent lv keys vals kids i → Ev (fun k => page_Put.l0 k (decide (lv ≤ 0)) vals kids (keys.drop (i + 1)) (i + 1) acc') ⟨(acc.data.toList ++ (List.range' i (d + 1)).flatMap (ent lv keys vals kids)).toArray⟩ := by
      intro acc' he
      have hsz : acc'.size = acc.size + entN lv := by rw [← dlen, he, List.length_append, ent_len h i (by omega), dlen]
      have := ih (i + 1) acc' (by omega) (by omega)
      rw [he, List.append_assoc] at this
      rw [show List.range' i (d + 1) = i :: List.range' (i + 1) d from rfl, List.flatMap_cons]
      exact this
    have hent := ent_len h i (by omega)
    rw [rdOf_drop ByteArray.empty keys i (by omega)]
    simp only [page_Put.l0]
    have hz : entN lv ≤ 42 := by unfold entN; split <;> omega
    have hz2 : 20 ≤ entN lv := by unfold entN; split <;> omega
    refine Ev.bind (numO1 _ acc (by omega) (by omega) (by omega)) ?_
    rw [Int.toNat_natCast]
    by_cases h0 : lv = 0
    · have hv := h.val h0 i (by omega)
      have hsh := h.shape
      simp only [decide_eq_true (show lv ≤ 0 by omega), if_true, if_pos (show i < vals.length by omega)]
      refine Ev.bind (numO1 _ _ (by omega) (by omega) (by rw [ByteArray.size_append, bB_size]; omega)) ?_
      rw [Int.toNat_natCast]
      simp only [textO_ok _ _ 16 hk (show (acc ++ bB 1 (rdOf ByteArray.empty keys (i : Int)).size ++ bB 1 (rdOf ByteArray.empty vals (i : Int)).size).size + 16 ≤ 2000 by rw [ByteArray.size_append, ByteArray.size_append, bB_size, bB_size]; omega), Option.bind_some]
      rw [show (fun k => (textO (rdOf ByteArray.empty vals (i : Int)) 24 (acc ++ bB 1 (rdOf ByteArray.empty keys (i : Int)).size ++ bB 1 (rdOf ByteArray.empty vals (i : Int)).size ++ (rdOf ByteArray.empty keys (i : Int) ++ zerosB (16 - (rdOf ByteArray.empty keys (i : Int)).size)))).bind fun b4 => page_Put.l0 k true vals kids (keys.drop (i + 1)) (i + 1) b4) = fun k => page_Put.l0 k true vals kids (keys.drop (i + 1)) (i + 1) (acc ++ bB 1 (rdOf ByteArray.empty keys (i : Int)).size ++ bB 1 (rdOf ByteArray.empty vals (i : Int)).size ++ (rdOf ByteArray.empty keys (i : Int) ++ zerosB (16 - (rdOf ByteArray.empty keys (i : Int)).size)) ++ (rdOf ByteArray.empty vals (i : Int) ++ zerosB (24 - (rdOf ByteArray.empty vals (i : Int)).size))) by
        rw [textO_ok _ _ 24 hv (by simp only [ByteArray.size_append, bB_size, zerosB_size]; omega)]; rfl]
      have := hfl (acc ++ bB 1 (rdOf ByteArray.empty keys (i : Int)).size ++ bB 1 (rdOf ByteArray.empty vals (i : Int)).size ++ (rdOf ByteArray.empty keys (i : Int) ++ zerosB (16 - (rdOf ByteArray.empty keys (i : Int)).size)) ++ (rdOf ByteArray.empty vals (i : Int) ++ zerosB (24 - (rdOf ByteArray.empty vals (i : Int)).size))) (by
        unfold ent; rw [if_pos h0]; unfold entL
        simp only [dapp, bB_list, zerosB_list, List.append_assoc])
      rw [decide_eq_true (show lv ≤ 0 by omega)] at this
      exact this
    · have hsh := h.shape
      have hd := h.kid (by omega) i (by omega)
      simp only [decide_eq_false (show ¬ lv ≤ 0 by omega), Bool.false_eq_true, if_false, if_pos (show i < kids.length by omega)]
      refine Ev.bind (numO2 _ _ (by omega) (by omega) (by rw [ByteArray.size_append, bB_size]; omega)) ?_
      refine Ev.bind (numO1 0 _ (by omega) (by omega) (by simp only [ByteArray.size_append, bB_size]; omega)) ?_
      rw [show (fun k => (textO (rdOf ByteArray.empty keys (i : Int)) 16 (acc ++ bB 1 (rdOf ByteArray.empty keys (i : Int)).size ++ bB 2 (rd kids (i : Int)).toNat ++ bB 1 (0 : Int).toNat)).bind fun b4 => page_Put.l0 k false vals kids (keys.drop (i + 1)) (i + 1) b4) = fun k => page_Put.l0 k false vals kids (keys.drop (i + 1)) (i + 1) (acc ++ bB 1 (rdOf ByteArray.empty keys (i : Int)).size ++ bB 2 (rd kids (i : Int)).toNat ++ bB 1 (0 : Int).toNat ++ (rdOf ByteArray.empty keys (i : Int) ++ zerosB (16 - (rdOf ByteArray.empty keys (i : Int)).size))) by
        rw [textO_ok _ _ 16 hk (by simp only [ByteArray.size_append, bB_size, zerosB_size]; omega)]; rfl]
      have := hfl (acc ++ bB 1 (rdOf ByteArray.empty keys (i : Int)).size ++ bB 2 (rd kids (i : Int)).toNat ++ bB 1 (0 : Int).toNat ++ (rdOf ByteArray.empty keys (i : Int) ++ zerosB (16 - (rdOf ByteArray.empty keys (i : Int)).size))) (by
        unfold ent; rw [if_neg h0]; unfold entU
        simp only [dapp, bB_list, zerosB_list, List.append_assoc]; rfl)
      rw [decide_eq_false (show ¬ lv ≤ 0 by omega)] at this
      exact this
theorem seal8 (l : List UInt8) (h : l.length ≤ 504) : sealS 8 ⟨l.toArray⟩ = (⟨(sealL 8 l).toArray⟩, none) ∧ refSeal 8 ⟨l.toArray⟩ = (⟨(sealL 8 l).toArray⟩, 0) := by
  have hs : (⟨l.toArray⟩ : ByteArray).size = l.length := by rw [← dlen]
  unfold sealS refSeal
  rw [if_neg (by decide), if_neg (by omega), if_neg (by decide), if_neg (by omega)]
  exact ⟨rfl, rfl⟩
/-- Put, of the program. -/
theorem put11_ev (lv : Int) (keys vals : List ByteArray) (kids : List Int) (hl : keys.length ≤ 1000) : Ev (fun k => page_Put.f k lv keys vals kids) (if rightP lv keys vals kids = true then (⟨(sealL 8 (putP lv keys vals kids)).toArray⟩, none) else (⟨#[]⟩, some 1)) := by
  unfold page_Put.f
  refine Ev.bind (right_ev lv keys vals kids hl) ?_
  by_cases hr : rightP lv keys vals kids = true
  case neg => simp only [if_neg hr]; exact Ev.now _
  have h := pgOk hr
  have hf := ent_fit h
  have hpl := putP_len h
  have hsh := h.shape
  simp only [if_pos hr]
  have a1 : Ev (fun k => numO k (if 0 < lv then 2 else 1) 1 ⟨#[]⟩) (⟨#[]⟩ ++ bB 1 (if 0 < lv then (2 : Int) else 1).toNat) := numO1 _ _ (by split <;> omega) (by split <;> omega) (by decide)
  refine Ev.bind a1 (Ev.bind (numO1 _ _ (by omega) (by omega) (by rw [ByteArray.size_append, bB_size]; show 0 + 1 ≤ 1000; omega)) (Ev.bind (numO1 _ _ (by omega) (by omega) (by rw [ByteArray.size_append, ByteArray.size_append, bB_size, bB_size]; show 0 + 1 + 1 ≤ 1000; omega)) (Ev.bind (numO1 0 _ (by omega) (by omega) (by simp only [ByteArray.size_append, bB_size]; show 0 + 1 + 1 + 1 ≤ 1000; omega)) ?_)))
  have hh : ((⟨#[]⟩ : ByteArray) ++ bB 1 (if 0 < lv then (2 : Int) else 1).toNat ++ bB 1 ((keys.length : Nat) : Int).toNat ++ bB 1 lv.toNat ++ bB 1 (0 : Int).toNat).data.toList = headP lv keys.length := by
    simp only [dapp, bB_list]
    unfold headP
    rw [Int.toNat_natCast]
    have : (if 0 < lv then (2 : Int) else 1).toNat = if 0 < lv then 2 else 1 := by split <;> rfl
    rw [this]; rfl
  generalize ((⟨#[]⟩ : ByteArray) ++ bB 1 (if 0 < lv then (2 : Int) else 1).toNat ++ bB 1 ((keys.length : Nat) : Int).toNat ++ bB 1 lv.toNat ++ bB 1 (0 : Int).toNat) = acc at hh ⊢
  have hsz : acc.size = 4 := by rw [← dlen, hh, headP_len]
  have hlp := put_loop h keys.length 0 acc (by omega) (by omega)
  rw [hh, List.drop_zero] at hlp
  refine Ev.bind hlp ?_
  exact (seal8 (putP lv keys vals kids) (by omega)).1 ▸ mark_Seal_ev 8 _
theorem son1 (a : Nat) (h : a < 256) : strOfNums [(a : Int) % 256] = bB 1 a := by
  rw [deq]
  show [UInt8.ofNat ((a : Int) % 256).toNat] = [UInt8.ofNat (a % 256)]
  rw [show ((a : Int) % 256).toNat = a % 256 by omega]
theorem son2 (a b : Nat) (h : a < 256) (h2 : b < 256) : strOfNums [(a : Int) % 256, (b : Int) % 256] = bB 1 a ++ bB 1 b := by
  rw [deq, dapp]
  show [UInt8.ofNat ((a : Int) % 256).toNat, UInt8.ofNat ((b : Int) % 256).toNat] = [UInt8.ofNat (a % 256), UInt8.ofNat (b % 256)]
  rw [show ((a : Int) % 256).toNat = a % 256 by omega, show ((b : Int) % 256).toNat = b % 256 by omega]
/-! ### markopen -/
/-- What Open answers. -/
def openS (kind : Int) (l : List UInt8) : ByteArray × Option Int := if l.length = 512 ∧ 1 ≤ kind ∧ kind ≤ 255 ∧ l.take 4 = headB kind.toNat then (if l.drop 508 = sumB (l.take 508) then (⟨((l.take 508).drop 4).toArray⟩, none) else (⟨#[]⟩, some 5)) else (⟨#[]⟩, some 4)
theorem ext_list (s : ByteArray) (a b : Nat) : (s.extract a b).data.toList = (s.data.toList.take b).drop a := by
  rw [ByteArray.data_extract, Array.toList_extract, List.extract_eq_drop_take', List.drop_take]
theorem mark_Open_ev (kind : Int) (s : ByteArray) : Ev (fun k => mark_Open.f k kind s) (openS kind s.data.toList) := by
  have bad : ¬ (s.data.toList.length = 512 ∧ 1 ≤ kind ∧ kind ≤ 255 ∧ s.data.toList.take 4 = headB kind.toNat) → Ev (fun k => mark_Open.j0 k s true) (openS kind s.data.toList) := fun h => by
    refine Ev.from 1 fun k => ?_
    rw [mark_Open.j0, if_pos rfl, openS, if_neg h]
  have hl := dlen s
  unfold mark_Open.f
  by_cases h0 : s.size = 512
  · simp only [if_pos (show (s.size : Int) = 512 by omega)]
    by_cases h1 : kind < 1
    · simp only [if_pos h1]; exact bad (by omega)
    · by_cases h2 : kind > 255
      · simp only [if_neg h1, if_pos h2]; exact bad (by omega)
      · simp only [if_neg h1, if_neg h2]
        simp only [if_pos (show (0 : Int) ≤ 4 by decide), if_pos (show 4 ≤ (s.size : Int) by omega)]
        refine Ev.bind (head_ev kind (by omega) (by omega)) ?_
        have e4 : (s.extract 0 4).toList = s.data.toList.take 4 := by rw [dl, ext_list, List.drop_zero]
        have e4' : ByteArray.toList ⟨(headB kind.toNat).toArray⟩ = headB kind.toNat := by rw [dl]
        rw [e4, e4']
        by_cases h3 : s.data.toList.take 4 = headB kind.toNat
        · rw [h3, bne_self_eq_false]
          refine Ev.step (fun k => by rw [mark_Open.j0, if_neg (by decide), if_pos (by omega), if_pos (by decide)]) ?_
          refine Ev.bind (sumOf_ev (s.extract 0 508) (by rw [ByteArray.size_extract]; omega)) ?_
          have e5 : (s.extract 508 s.size).toList = s.data.toList.drop 508 := by rw [dl, ext_list, List.take_of_length_le (by rw [dlen]; omega)]
          have e6 : (s.extract 0 508).data.toList = s.data.toList.take 508 := by rw [ext_list, List.drop_zero]
          have e7 : ∀ l : List UInt8, ByteArray.toList ⟨(sumB l).toArray⟩ = sumB l := fun l => by rw [dl]
          rw [e5, e6, e7]
          have hc : s.data.toList.length = 512 ∧ 1 ≤ kind ∧ kind ≤ 255 ∧ s.data.toList.take 4 = headB kind.toNat := ⟨by omega, by omega, by omega, h3⟩
          have e8 : s.extract 4 508 = ⟨((s.data.toList.take 508).drop 4).toArray⟩ := by rw [deq, ext_list]
          by_cases h4 : s.data.toList.drop 508 = sumB (s.data.toList.take 508)
          · have eo : openS kind s.data.toList = (⟨((s.data.toList.take 508).drop 4).toArray⟩, none) := by unfold openS; rw [if_pos hc, if_pos h4]
            rw [eo]
            refine Ev.from 0 fun k => ?_
            rw [if_pos h4, if_pos (by decide), e8]
          · have eo : openS kind s.data.toList = (⟨#[]⟩, some 5) := by unfold openS; rw [if_pos hc, if_neg h4]
            rw [eo]
            refine Ev.from 0 fun k => ?_
            rw [if_neg h4]
        · have : (s.data.toList.take 4 != headB kind.toNat) = true := by simpa using h3
          rw [this]
          exact bad (fun h => h3 h.2.2.2)
  · simp only [if_neg (show ¬ (s.size : Int) = 512 by omega)]; exact bad (by omega)
/-- What is sealed opens as that. -/
theorem open_seal (kind : Int) (body : List UInt8) (h1 : 1 ≤ kind) (h2 : kind ≤ 255) (hb : body.length ≤ 504) : openS kind (sealL kind.toNat body) = (⟨(body ++ List.replicate (504 - body.length) 0).toArray⟩, none) := by
  have hbl := bodyL_len kind.toNat body hb
  have t508 : (sealL kind.toNat body).take 508 = bodyL kind.toNat body := by
    unfold sealL
    rw [List.take_append_of_le_length (by omega), List.take_of_length_le (by omega)]
  have d508 : (sealL kind.toNat body).drop 508 = sumB (bodyL kind.toNat body) := by
    unfold sealL
    rw [← hbl, List.drop_left]
  have t4 : (sealL kind.toNat body).take 4 = headB kind.toNat := rfl
  unfold openS
  rw [if_pos ⟨sealL_len _ _ hb, h1, h2, t4⟩, t508, d508, if_pos rfl]
  rfl

/-! ### leget -/
theorem or_i64 (a b : Nat) (ha : a < 9223372036854775808) (hb : b < 9223372036854775808) : Go.bits .or .i64 (a : Int) (b : Int) = ((a ||| b : Nat) : Int) := by
  have hx : a ||| b < 2 ^ 63 := Nat.or_lt_two_pow (by omega) (by omega)
  have h1 : (BitVec.ofInt 64 (a : Int)).toNat = a := by
    rw [BitVec.ofInt_natCast, BitVec.toNat_ofNat]; exact Nat.mod_eq_of_lt (by omega)
  have h2 : (BitVec.ofInt 64 (b : Int)).toNat = b := by
    rw [BitVec.ofInt_natCast, BitVec.toNat_ofNat]; exact Nat.mod_eq_of_lt (by omega)
  show IntKind.i64.wrap ((BitVec.ofInt 64 (a : Int) ||| BitVec.ofInt 64 (b : Int)).toNat : Int) = _
  rw [BitVec.toNat_or, h1, h2]
  rw [IntKind.wrap_i64]
  omega
theorem or_low (n b : Nat) (hn : n < 281474976710656) (hb : b < 256) : Go.bits .or .i64 (wrap64 ((n : Int) * 256)) (wrap64 (b : Int)) = ((b + 256 * n : Nat) : Int) := by
  have e1 : wrap64 ((n : Int) * 256) = ((n * 256 : Nat) : Int) := by rw [w64 (by omega) (by omega)]; omega
  rw [e1, w64 (by omega) (by omega), or_i64 _ _ (by omega) (by omega)]
  have h := Nat.shiftLeft_add_eq_or_of_lt (show b < 2 ^ 8 by omega) n
  rw [Nat.shiftLeft_eq] at h
  have h' : n * 256 ||| b = n * 256 + b := h.symm
  rw [h']; omega
theorem bt_get (s : ByteArray) (i : Nat) : bt s (i : Int) = ((s.data.toList.getD i 0).toNat : Int) := by
  unfold bt
  rw [Int.toNat_natCast]
  split
  · rename_i h
    have h' : i < s.data.toList.length := by rw [dlen]; exact h
    rw [List.getD_eq_getElem?_getD, List.getElem?_eq_getElem h', Option.getD_some, Array.getElem_toList]
    rfl
  · rename_i h
    have h' : s.data.toList.length ≤ i := by rw [dlen]; omega
    rw [List.getD_eq_getElem?_getD, List.getElem?_eq_none h']
    rfl
/-- What Get answers. -/
def leGetS (s : ByteArray) : Int := if s.size ≤ 7 then (unB s.data.toList : Int) else 0
theorem le_Get_loop (s : ByteArray) (hs : s.size ≤ 7) : ∀ (i : Nat), i ≤ s.size → Ev (fun k => le_Get.l0 k s (unB (s.data.toList.drop i) : Int) ((i : Int) - 1)) (unB s.data.toList : Int) := by
  intro i
  induction i with
  | zero =>
    intro _
    refine Ev.from 1 fun k => ?_
    rw [le_Get.l0, if_neg (by omega), List.drop_zero]
  | succ i ih =>
    intro hi
    have hil : i < s.data.toList.length := by rw [dlen]; omega
    have e1 : ((i + 1 : Nat) : Int) - 1 = (i : Int) := by omega
    have e2 : wrap64 ((i : Int) - 1) = (i : Int) - 1 := w64 (by omega) (by omega)
    have hb := (s.data.toList[i]).toNat_lt
    have hlt := unB_lt (s.data.toList.drop (i + 1))
    rw [List.length_drop, dlen] at hlt
    have hp : 256 ^ (s.size - (i + 1)) ≤ 256 ^ 6 := Nat.pow_le_pow_right (by decide) (by omega)
    have e3 : bt s (i : Int) = ((s.data.toList[i]).toNat : Int) := by
      rw [bt_get, List.getD_eq_getElem?_getD, List.getElem?_eq_getElem hil]; rfl
    have e4 : unB (s.data.toList.drop i) = (s.data.toList[i]).toNat + 256 * unB (s.data.toList.drop (i + 1)) := by
      rw [List.drop_eq_getElem_cons hil, unB]
    refine Ev.step (fun k => ?_) (ih (by omega))
    rw [e1, le_Get.l0, if_pos (by omega), if_pos (by omega), if_pos (by omega), e2, e3, e4]
    rw [or_low _ _ (by omega) (by omega)]
theorem le_Get_ev (s : ByteArray) : Ev (fun k => le_Get.f k s) (leGetS s) := by
  unfold le_Get.f leGetS
  by_cases h : s.size ≤ 7
  · simp only [if_neg (show ¬ (s.size : Int) > 7 by omega), if_pos h]
    rw [w64 (by omega) (by omega)]
    have := le_Get_loop s h s.size (Nat.le_refl _)
    rw [List.drop_of_length_le (by rw [dlen]; omega)] at this
    exact this
  · simp only [if_pos (show (s.size : Int) > 7 by omega), if_neg h]; exact Ev.now _

/-! ### lein -/
theorem bex (s : ByteArray) (a b : Nat) : (s.extract a b).data.toList = (s.data.toList.take b).drop a := by
  rw [ByteArray.data_extract, Array.toList_extract, List.extract_eq_drop_take', List.drop_take]
theorem drop_nil_iff (l : List UInt8) : l.dropWhile (· == 0) = [] ↔ ∀ b ∈ l, b = 0 := by
  induction l with
  | nil => simp
  | cons a l ih =>
    by_cases h : a = 0
    · subst h
      rw [List.dropWhile_cons_of_pos (by decide), ih]
      simp
    · rw [List.dropWhile_cons_of_neg (by simpa using h)]
      simp [h]
theorem trim_nil_iff (l : List UInt8) : Lib.trimB l 0 = [] ↔ ∀ b ∈ l, b = 0 := by
  unfold Lib.trimB Lib.trimLeftB Lib.trimRightB
  rw [drop_nil_iff]
  constructor
  · intro h
    have h1 : (l.reverse.dropWhile (· == 0)) = [] := by
      cases hx : l.reverse.dropWhile (· == 0) with
      | nil => rfl
      | cons a r =>
        have ha : a = 0 := h a (by rw [hx]; simp)
        have h2 : ¬ ((a == 0) = true) := by
          have h3 := List.head?_dropWhile_not (p := fun b : UInt8 => b == 0) (l := l.reverse)
          rw [hx] at h3
          simpa using h3
        exact absurd (by simp [ha]) h2
    have h4 := (drop_nil_iff l.reverse).1 h1
    intro b hb
    exact h4 b (by simpa using hb)
  · intro h b hb
    have h1 : l.reverse.dropWhile (· == 0) = [] := (drop_nil_iff l.reverse).2 (fun b hb => h b (by simpa using hb))
    rw [h1] at hb
    simp at hb
/-- What Text answers: the text, the rest, the error. -/
def inText (s : ByteArray) (e : Option Int) (n : Int) : ByteArray × ByteArray × Option Int :=
  if e.isNone = true then (if n < 0 then (⟨#[]⟩, s, some 1) else if n > (s.size : Int) then (⟨#[]⟩, s, some 4) else (s.extract 0 n.toNat, s.extract n.toNat s.size, none)) else (⟨#[]⟩, s, some (e.getD 0))
theorem in_fail (s : ByteArray) (e : Option Int) (n : Int) : le_In_fail.f s e n = some (s, if e.isNone = true then some n else some (e.getD 0)) := by
  unfold le_In_fail.f
  split <;> rfl
theorem in_text (s : ByteArray) (e : Option Int) (n : Int) : le_In_Text.f s e n = some (inText s e n) := by
  unfold le_In_Text.f inText
  simp only [in_fail, Option.bind_some]
  cases e with
  | none =>
    simp only [Option.isNone_none, if_true, Option.isNone_some, Bool.false_eq_true, if_false]
    by_cases h1 : n < 0
    · rw [if_pos h1, if_pos h1]; rfl
    · rw [if_neg h1, if_neg h1]
      by_cases h2 : n > (s.size : Int)
      · rw [if_pos h2, if_pos h2]; rfl
      · rw [if_neg h2, if_neg h2, if_pos (by omega), if_pos (by omega)]
  | some v =>
    simp only [Option.isNone_some, Bool.false_eq_true, if_false]
    split
    · rfl
    · split <;> rfl
/-- What Num leaves of the error ahead of the text. -/
def inNumE (e : Option Int) (n : Int) : Option Int := if n < 1 ∨ n > 7 then (if e.isNone = true then some 1 else some (e.getD 0)) else e
/-- What Num answers. -/
def inNum (s : ByteArray) (e : Option Int) (n : Int) : Int × ByteArray × Option Int := (leGetS (inText s (inNumE e n) n).1, (inText s (inNumE e n) n).2)
theorem in_num (s : ByteArray) (e : Option Int) (n : Int) : Ev (fun k => le_In_Num.f k s e n) (inNum s e n) := by
  have bad : n < 1 ∨ n > 7 → Ev (fun k => le_In_Num.j0 k n true s e) (inNum s e n) := fun h => by
    refine Ev.step (fun k => by rw [le_In_Num.j0, if_pos rfl, in_fail, Option.bind_some]) ?_
    unfold inNum inNumE
    rw [if_pos h]
    simp only [in_text, Option.bind_some]
    exact Ev.bind (le_Get_ev _) (Ev.now _)
  unfold le_In_Num.f
  by_cases h1 : n < 1
  · simp only [if_pos h1]; exact bad (.inl h1)
  · simp only [if_neg h1]
    by_cases h2 : n > 7
    · rw [decide_eq_true h2]; exact bad (.inr h2)
    · rw [decide_eq_false h2]
      refine Ev.step (fun k => by rw [le_In_Num.j0, if_neg (by decide)]) ?_
      unfold inNum inNumE
      rw [if_neg (by omega)]
      simp only [in_text, Option.bind_some]
      exact Ev.bind (le_Get_ev _) (Ev.now _)
/-- What Noughts leaves. -/
def inNoughts (s : ByteArray) (e : Option Int) (n : Int) : ByteArray × Option Int :=
  ((inText s e n).2.1, if (inText s e n).1.data.toList.all (· == 0) = true then (inText s e n).2.2 else (if (inText s e n).2.2.isNone = true then some 4 else some ((inText s e n).2.2.getD 0)))
theorem in_text_size (s : ByteArray) (e : Option Int) (n : Int) : (inText s e n).1.size ≤ s.size := by
  unfold inText
  split
  · split
    · exact Nat.zero_le _
    · split
      · exact Nat.zero_le _
      · show (s.extract 0 n.toNat).size ≤ s.size
        rw [ByteArray.size_extract]; omega
  · exact Nat.zero_le _
theorem in_noughts (s : ByteArray) (e : Option Int) (n : Int) (hs : s.size ≤ 9223372036854775807) : le_In_Noughts.f s e n = some (inNoughts s e n) := by
  unfold le_In_Noughts.f inNoughts
  rw [in_text, Option.bind_some]
  have h1 := in_text_size s e n
  unfold strings_Trim.f
  rw [if_pos ⟨rfl, by omega⟩, Option.bind_some]
  have h2 : (ByteArray.toList ⟨(Lib.trimB (inText s e n).1.data.toList 0).toArray⟩) = Lib.trimB (inText s e n).1.data.toList 0 := by rw [dl]
  rw [h2]
  by_cases h : (inText s e n).1.data.toList.all (· == 0) = true
  · have h3 : Lib.trimB (inText s e n).1.data.toList 0 = [] := (trim_nil_iff _).2 (fun b hb => by have := List.all_eq_true.1 h b hb; simpa using this)
    rw [if_pos h3, if_pos h]
  · have h3 : ¬ Lib.trimB (inText s e n).1.data.toList 0 = [] := fun h4 => h (List.all_eq_true.2 (fun b hb => by simpa using (trim_nil_iff _).1 h4 b hb))
    rw [if_neg h3, if_neg h, in_fail]; rfl
/-- What End answers. -/
def inEnd (s : ByteArray) (e : Option Int) : Option Int := if e.isNone = true then (if s.data.toList = [] then none else some 10) else some (e.getD 0)
theorem in_end (s : ByteArray) (e : Option Int) : ∃ r, le_In_End.f s e = some (inEnd s e, r) := by
  unfold le_In_End.f inEnd
  rw [dl]
  split
  · split <;> exact ⟨_, rfl⟩
  · exact ⟨_, rfl⟩

/-! ### get11 -/
def bA (l : List UInt8) : ByteArray := ⟨l.toArray⟩
theorem bA_list (l : List UInt8) : (bA l).data.toList = l := rfl
theorem bA_size (l : List UInt8) : (bA l).size = l.length := by rw [← dlen, bA_list]
theorem bA_self (s : ByteArray) : bA s.data.toList = s := by rw [deq, bA_list]
theorem text_bA (a r : List UInt8) (n : Int) (hn : n = (a.length : Int)) : inText (bA (a ++ r)) none n = (bA a, bA r, none) := by
  subst hn
  unfold inText
  simp only [Option.isNone_none, if_true]
  rw [if_neg (by omega), if_neg (by rw [bA_size, List.length_append]; omega), Int.toNat_natCast]
  have e1 : (bA (a ++ r)).extract 0 a.length = bA a := by rw [deq, bex, bA_list, bA_list, List.drop_zero, List.take_left]
  have e2 : (bA (a ++ r)).extract a.length (bA (a ++ r)).size = bA r := by rw [deq, bex, List.take_of_length_le (by rw [dlen]; exact Nat.le_refl _), bA_list, bA_list, List.drop_left]
  rw [e1, e2]
theorem num_bA (sz m : Nat) (r : List UInt8) (h1 : 1 ≤ sz) (h7 : sz ≤ 7) (hm : m < 256 ^ sz) : Ev (fun k => le_In_Num.f k (bA (leB sz m ++ r)) none (sz : Int)) ((m : Int), bA r, none) := by
  have h := in_num (bA (leB sz m ++ r)) none (sz : Int)
  have e : inNum (bA (leB sz m ++ r)) none (sz : Int) = ((m : Int), bA r, none) := by
    unfold inNum
    have ee : inNumE none (sz : Int) = none := by unfold inNumE; rw [if_neg (by omega)]
    rw [ee, text_bA (leB sz m) r (sz : Int) (by rw [leB_len])]
    unfold leGetS
    rw [if_pos (by rw [bA_size, leB_len]; exact h7), bA_list, unB_leB, Nat.mod_eq_of_lt hm]
  rw [e] at h; exact h
theorem noughts_bA (n : Nat) (r : List UInt8) (i : Int) (hi : i = (n : Int)) (hs : n + r.length ≤ 9223372036854775807) : le_In_Noughts.f (bA (List.replicate n 0 ++ r)) none i = some (bA r, none) := by
  rw [in_noughts _ _ _ (by rw [bA_size, List.length_append, List.length_replicate]; exact hs)]
  unfold inNoughts
  rw [text_bA _ r i (by rw [List.length_replicate]; exact hi)]
  simp only [bA_list]
  rw [if_pos (by rw [List.all_eq_true]; intro b hb; rw [List.eq_of_mem_replicate hb]; rfl)]
theorem padded_bA (s : ByteArray) (m : Nat) (r : List UInt8) (a b : Int) (ha : a = (s.size : Int)) (hb : b = (m : Int)) (hm : s.size ≤ m) (hm2 : m ≤ 1000) (hr : r.length ≤ 2000) : page_padded.f (bA ((s.data.toList ++ List.replicate (m - s.size) 0) ++ r)) none a b = some (s, bA r, none) := by
  subst ha hb
  unfold page_padded.f
  rw [if_neg (by omega), in_text, List.append_assoc, text_bA s.data.toList _ _ (by rw [dlen]), Option.bind_some, noughts_bA (m - s.size) r _ (by rw [w64 (by omega) (by omega)]; omega) (by omega), Option.bind_some, bA_self]
theorem take_rdOf (e : ByteArray) (l : List ByteArray) (i : Nat) (h : i < l.length) : l.take i ++ [rdOf e l (i : Int)] = l.take (i + 1) := by rw [rdOf_at e l i h, List.take_succ_eq_append_getElem h]
theorem take_rd (l : List Int) (i : Nat) (h : i < l.length) : l.take i ++ [rd l (i : Int)] = l.take (i + 1) := by rw [rd_at l i h, List.take_succ_eq_append_getElem h]
/-- Get gives back what Put made. -/
theorem get11_ev (lv : Int) (keys vals : List ByteArray) (kids : List Int) (hr : rightP lv keys vals kids = true) : Ev (fun k => page_Get.f k ⟨(sealL 8 (putP lv keys vals kids)).toArray⟩) (lv, keys, vals, kids, none) := by
  have h := pgOk hr
  have hf := ent_fit h
  have hpl := putP_len h
  have hsh := h.shape
  have hk8 : ∀ i : Nat, i < keys.length → (rdOf ByteArray.empty keys (i : Int)).size ≤ 16 := h.key
  have loop : ∀ (d i : Nat), i + d = keys.length → Ev (fun k => page_Get.l0 k (if 0 < lv then 2 else 1) (((500 - entN lv * keys.length : Nat)) : Int) (keys.length : Int) (i : Int) (bA ((List.range' i d).flatMap (ent lv keys vals kids) ++ List.replicate (500 - entN lv * keys.length) 0)) none lv (keys.take i) (if lv = 0 then vals.take i else []) (if lv = 0 then [] else kids.take i)) (lv, keys, vals, kids, none) := by
    intro d
    induction d with
    | zero =>
      intro i hi
      obtain rfl : i = keys.length := by omega
      refine Ev.suc ?_
      simp only [page_Get.l0, if_neg (show ¬ ((keys.length : Nat) : Int) < ((keys.length : Nat) : Int) by omega)]
      rw [show List.range' keys.length 0 = [] from rfl, List.flatMap_nil, List.nil_append]
      have n1 := noughts_bA (500 - entN lv * keys.length) [] _ rfl (by show _ + 0 ≤ _; omega)
      rw [List.append_nil] at n1
      obtain ⟨r, he⟩ := in_end (bA []) none
      have he2 : inEnd (bA []) none = none := rfl
      rw [he2] at he
      have ev : (if lv = 0 then vals.take keys.length else []) = vals := by
        split
        · rw [List.take_of_length_le (by omega)]
        · exact (List.eq_nil_of_length_eq_zero (by omega)).symm
      have ek : (if lv = 0 then [] else kids.take keys.length) = kids := by
        split
        · exact (List.eq_nil_of_length_eq_zero (by omega)).symm
        · rw [List.take_of_length_le (by omega)]
      simp only [n1, Option.bind_some, he, Option.isNone_none, if_true, List.take_length, ev, ek]
      refine Ev.bind (right_ev lv keys vals kids (by omega)) ?_
      simp only [hr, if_true]
      exact Ev.now _
    | succ d ih =>
      intro i hi
      have hk := hk8 i (by omega)
      have ih' := ih (i + 1) (by omega)
      have hlen := ents_len h d (i + 1) (by omega)
      have hmul : entN lv * d ≤ 500 := by
        have : entN lv * d ≤ entN lv * keys.length := Nat.mul_le_mul_left _ (by omega)
        omega
      rw [show List.range' i (d + 1) = i :: List.range' (i + 1) d from rfl, List.flatMap_cons, List.append_assoc]
      have hrl : ((List.range' (i + 1) d).flatMap (ent lv keys vals kids) ++ List.replicate (500 - entN lv * keys.length) 0).length ≤ 1000 := by
        rw [List.length_append, hlen, List.length_replicate]; omega
      generalize (List.range' (i + 1) d).flatMap (ent lv keys vals kids) ++ List.replicate (500 - entN lv * keys.length) 0 = rest at ih' hrl ⊢
      have ew : wrap64 ((i : Int) + 1) = ((i + 1 : Nat) : Int) := by rw [w64 (by omega) (by omega)]; omega
      refine Ev.suc ?_
      simp only [page_Get.l0, if_pos (show (i : Int) < (keys.length : Int) by omega), ew]
      have hlk : (keys.take i).length ≤ 1000 := by rw [List.length_take]; omega
      by_cases h0 : lv = 0
      · have hvl := h.val h0 i (by omega)
        have e0 : ent lv keys vals kids i = leB 1 (rdOf ByteArray.empty keys (i : Int)).size ++ (leB 1 (rdOf ByteArray.empty vals (i : Int)).size ++ (((rdOf ByteArray.empty keys (i : Int)).data.toList ++ List.replicate (16 - (rdOf ByteArray.empty keys (i : Int)).size) 0) ++ ((rdOf ByteArray.empty vals (i : Int)).data.toList ++ List.replicate (24 - (rdOf ByteArray.empty vals (i : Int)).size) 0))) := by unfold ent; rw [if_pos h0]; rfl
        rw [e0, List.append_assoc, List.append_assoc, List.append_assoc]
        have n1 := num_bA 1 (rdOf ByteArray.empty keys (i : Int)).size (leB 1 (rdOf ByteArray.empty vals (i : Int)).size ++ (((rdOf ByteArray.empty keys (i : Int)).data.toList ++ List.replicate (16 - (rdOf ByteArray.empty keys (i : Int)).size) 0) ++ (((rdOf ByteArray.empty vals (i : Int)).data.toList ++ List.replicate (24 - (rdOf ByteArray.empty vals (i : Int)).size) 0) ++ rest))) (by omega) (by omega) (by omega)
        have n2 := num_bA 1 (rdOf ByteArray.empty vals (i : Int)).size (((rdOf ByteArray.empty keys (i : Int)).data.toList ++ List.replicate (16 - (rdOf ByteArray.empty keys (i : Int)).size) 0) ++ (((rdOf ByteArray.empty vals (i : Int)).data.toList ++ List.replicate (24 - (rdOf ByteArray.empty vals (i : Int)).size) 0) ++ rest)) (by omega) (by omega) (by omega)
        have p1 := padded_bA (rdOf ByteArray.empty keys (i : Int)) 16 (((rdOf ByteArray.empty vals (i : Int)).data.toList ++ List.replicate (24 - (rdOf ByteArray.empty vals (i : Int)).size) 0) ++ rest) ((rdOf ByteArray.empty keys (i : Int)).size : Int) 16 rfl rfl hk (by omega) (by rw [List.length_append, List.length_append, List.length_replicate, dlen]; omega)
        have p2 := padded_bA (rdOf ByteArray.empty vals (i : Int)) 24 rest ((rdOf ByteArray.empty vals (i : Int)).size : Int) 24 rfl rfl hvl (by omega) (by omega)
        refine Ev.bind n1 ?_
        simp only [if_neg (show ¬ 0 < lv by omega), if_true, if_pos h0]
        refine Ev.bind n2 ?_
        have hlv : (vals.take i).length ≤ 1000 := by rw [List.length_take]; omega
        simp only [p1, p2, Option.bind_some, if_pos (show (keys.take i).length < 8796093022208 by omega), if_pos (show (vals.take i).length < 8796093022208 by omega), take_rdOf ByteArray.empty keys i (by omega), take_rdOf ByteArray.empty vals i (by omega)]
        simp only [if_neg (show ¬ 0 < lv by omega), if_pos h0] at ih'
        exact ih'
      · have hdk := h.kid (by omega) i (by omega)
        have e0 : ent lv keys vals kids i = leB 1 (rdOf ByteArray.empty keys (i : Int)).size ++ (leB 2 (rd kids (i : Int)).toNat ++ (leB 1 0 ++ ((rdOf ByteArray.empty keys (i : Int)).data.toList ++ List.replicate (16 - (rdOf ByteArray.empty keys (i : Int)).size) 0))) := by unfold ent; rw [if_neg h0]; rfl
        have e1 : leB 1 0 = List.replicate 1 (0 : UInt8) := rfl
        rw [e0, e1, List.append_assoc, List.append_assoc, List.append_assoc]
        have n1 := num_bA 1 (rdOf ByteArray.empty keys (i : Int)).size (leB 2 (rd kids (i : Int)).toNat ++ (List.replicate 1 (0 : UInt8) ++ (((rdOf ByteArray.empty keys (i : Int)).data.toList ++ List.replicate (16 - (rdOf ByteArray.empty keys (i : Int)).size) 0) ++ rest))) (by omega) (by omega) (by omega)
        have n2 := num_bA 2 (rd kids (i : Int)).toNat (List.replicate 1 (0 : UInt8) ++ (((rdOf ByteArray.empty keys (i : Int)).data.toList ++ List.replicate (16 - (rdOf ByteArray.empty keys (i : Int)).size) 0) ++ rest)) (by omega) (by omega) (by omega)
        rw [show (((rd kids (i : Int)).toNat : Nat) : Int) = rd kids (i : Int) by omega] at n2
        have p0 := noughts_bA 1 (((rdOf ByteArray.empty keys (i : Int)).data.toList ++ List.replicate (16 - (rdOf ByteArray.empty keys (i : Int)).size) 0) ++ rest) 1 rfl (by rw [List.length_append, List.length_append, List.length_replicate, dlen]; omega)
        have p1 := padded_bA (rdOf ByteArray.empty keys (i : Int)) 16 rest ((rdOf ByteArray.empty keys (i : Int)).size : Int) 16 rfl rfl hk (by omega) (by omega)
        refine Ev.bind n1 ?_
        simp only [if_pos (show 0 < lv by omega), if_neg (show ¬ (2 : Int) = 1 by decide), if_neg h0]
        refine Ev.bind n2 ?_
        have hlv : (kids.take i).length ≤ 1000 := by rw [List.length_take]; omega
        simp only [p0, p1, Option.bind_some, if_pos (show (keys.take i).length < 8796093022208 by omega), if_pos (show (kids.take i).length < 17592186044416 by omega), take_rdOf ByteArray.empty keys i (by omega), take_rd kids i (by omega)]
        simp only [if_pos (show 0 < lv by omega), if_neg h0] at ih'
        exact ih'
  have hop : openS 8 (sealL 8 (putP lv keys vals kids)) = (bA (putP lv keys vals kids ++ List.replicate (504 - (putP lv keys vals kids).length) 0), none) := open_seal 8 (putP lv keys vals kids) (by decide) (by decide) (by omega)
  have hO := mark_Open_ev 8 ⟨(sealL 8 (putP lv keys vals kids)).toArray⟩
  rw [show (⟨(sealL 8 (putP lv keys vals kids)).toArray⟩ : ByteArray).data.toList = sealL 8 (putP lv keys vals kids) from rfl, hop] at hO
  unfold page_Get.f
  refine Ev.bind hO ?_
  simp only [Option.isNone_none, if_true, le_Read.f, Option.bind_some]
  rw [hpl, show 504 - (4 + entN lv * keys.length) = 500 - entN lv * keys.length by omega]
  have lp := loop keys.length 0 (by omega)
  unfold putP headP
  have e1 : leB 1 0 = List.replicate 1 (0 : UInt8) := rfl
  rw [e1, List.append_assoc, List.append_assoc, List.append_assoc, List.append_assoc]
  generalize hR : (List.range' 0 keys.length).flatMap (ent lv keys vals kids) ++ List.replicate (500 - entN lv * keys.length) 0 = rest at lp ⊢
  have hrl : rest.length ≤ 1000 := by rw [← hR, List.length_append, ents_len h keys.length 0 (by omega), List.length_replicate]; omega
  have hlv5 : 0 ≤ lv ∧ lv ≤ 5 := by omega
  have kd : ((if 0 < lv then 2 else 1 : Nat) : Int) = if 0 < lv then 2 else 1 := by split <;> rfl
  have n1 := num_bA 1 (if 0 < lv then 2 else 1) (leB 1 keys.length ++ (leB 1 lv.toNat ++ (List.replicate 1 (0 : UInt8) ++ rest))) (by omega) (by omega) (by split <;> omega)
  rw [kd] at n1
  have n2 := num_bA 1 keys.length (leB 1 lv.toNat ++ (List.replicate 1 (0 : UInt8) ++ rest)) (by omega) (by omega) (by omega)
  have n3 := num_bA 1 lv.toNat (List.replicate 1 (0 : UInt8) ++ rest) (by omega) (by omega) (by omega)
  rw [show ((lv.toNat : Nat) : Int) = lv by omega] at n3
  have n4 := noughts_bA 1 rest 1 rfl (by omega)
  refine Ev.bind n1 (Ev.bind n2 (Ev.bind n3 ?_))
  simp only [n4, Option.bind_some]
  have fin : ∀ c : Int, c = (entN lv : Int) → Ev (fun k => page_Get.j0 k (if 0 < lv then 2 else 1) (keys.length : Int) c (bA rest) none lv) (lv, keys, vals, kids, none) := by
    intro c hc
    have hE : entN lv = 42 ∨ entN lv = 20 := by unfold entN; split <;> omega
    have em : wrap64 ((keys.length : Int) * c) = ((entN lv * keys.length : Nat) : Int) := by
      have : (keys.length : Int) * c = ((entN lv * keys.length : Nat) : Int) := by rw [hc, Int.natCast_mul, Int.mul_comm]
      rw [this, w64 (by omega) (by omega)]
    have e5 : wrap64 (500 - ((entN lv * keys.length : Nat) : Int)) = ((500 - entN lv * keys.length : Nat) : Int) := by
      rw [w64 (by omega) (by omega)]; omega
    refine Ev.suc ?_
    simp only [page_Get.j0, em, e5, if_neg (show ¬ ((500 - entN lv * keys.length : Nat) : Int) < 0 by omega)]
    have hx : (((if 0 < lv then (2 : Int) else 1) == 1) != (lv == 0)) = false := by
      rw [bne_eq_false_iff_eq, Bool.eq_iff_iff, beq_iff_eq, beq_iff_eq]
      split <;> omega
    have j1 : Ev (fun k => page_Get.j1 k (if 0 < lv then 2 else 1) (keys.length : Int) ((500 - entN lv * keys.length : Nat) : Int) (((if 0 < lv then (2 : Int) else 1) == 1) != (lv == 0)) (bA rest) none lv) (lv, keys, vals, kids, none) := by
      rw [hx]
      refine Ev.suc ?_
      simp only [page_Get.j1, Bool.false_eq_true, if_false]
      rw [List.take_zero] at lp
      have e1 : (if lv = 0 then vals.take 0 else []) = ([] : List ByteArray) := by split <;> rfl
      have e2 : (if lv = 0 then [] else kids.take 0) = ([] : List Int) := by split <;> rfl
      rw [e1, e2] at lp
      exact lp
    by_cases h0 : 0 < lv
    · simp only [if_pos h0] at j1 ⊢
      simp only [if_neg (show ¬ (2 : Int) = 1 by decide), if_true]; exact j1
    · simp only [if_neg h0] at j1 ⊢
      simp only [if_true]; exact j1
  by_cases h0 : 0 < lv
  · have := fin 20 (by unfold entN; rw [if_neg (by omega)]; rfl)
    simp only [if_pos h0, if_true] at this ⊢; exact this
  · have := fin 42 (by unfold entN; rw [if_pos (by omega)]; rfl)
    simp only [if_neg h0, if_neg (show ¬ (1 : Int) = 2 by decide)] at this ⊢; exact this

/-! ### speaks11 -/
theorem speaks11_ev : Ev (fun k => posthorselaw11_speaks.f k) true := by
  have hr : rightP 0 [(⟨#[107]⟩ : ByteArray)] [(⟨#[118]⟩ : ByteArray)] [] = true := by decide +kernel
  have p1 := put11_ev 0 [(⟨#[107]⟩ : ByteArray)] [(⟨#[118]⟩ : ByteArray)] [] (by decide)
  rw [if_pos hr] at p1
  have hsz : ((⟨(sealL 8 (putP 0 [(⟨#[107]⟩ : ByteArray)] [(⟨#[118]⟩ : ByteArray)] [])).toArray⟩ : ByteArray).size : Int) = 512 := by
    rw [← dlen]
    show ((sealL 8 (putP 0 [(⟨#[107]⟩ : ByteArray)] [(⟨#[118]⟩ : ByteArray)] [])).length : Int) = 512
    rw [sealL_len _ _ (by rw [putP_len (pgOk hr)]; decide)]; rfl
  have h4 : bt (⟨(sealL 8 (putP 0 [(⟨#[107]⟩ : ByteArray)] [(⟨#[118]⟩ : ByteArray)] [])).toArray⟩ : ByteArray) 4 = 1 := by decide +kernel
  have h5 : bt (⟨(sealL 8 (putP 0 [(⟨#[107]⟩ : ByteArray)] [(⟨#[118]⟩ : ByteArray)] [])).toArray⟩ : ByteArray) 5 = 1 := by decide +kernel
  unfold posthorselaw11_speaks.f
  have w1 : Ev (fun k => page_With.f k 0 ([] : List ByteArray) ([] : List ByteArray) ([] : List Int) (⟨#[107]⟩ : ByteArray) (⟨#[118]⟩ : ByteArray)) (0, [(⟨#[107]⟩ : ByteArray)], [(⟨#[118]⟩ : ByteArray)], []) := Ev.at_ (fun k => page_With.mono _ _ _ _ _ _ k) (j := 10) (by decide +kernel)
  refine Ev.bind w1 ?_
  simp only
  refine Ev.bind p1 ?_
  simp only
  refine Ev.bind (get11_ev 0 [(⟨#[107]⟩ : ByteArray)] [(⟨#[118]⟩ : ByteArray)] [] hr) ?_
  simp only
  have f1 : Ev (fun k => page_Find.f k 0 [(⟨#[107]⟩ : ByteArray)] [(⟨#[118]⟩ : ByteArray)] [] (⟨#[107]⟩ : ByteArray)) (0, true) := Ev.at_ (fun k => page_Find.mono _ _ _ _ _ k) (j := 10) (by decide +kernel)
  refine Ev.bind f1 ?_
  have e1 : (([(⟨#[118]⟩ : ByteArray)].length : Nat) : Int) = 1 := rfl
  have e2 : (rdOf ByteArray.empty [(⟨#[118]⟩ : ByteArray)] 0).toList = ([118] : List UInt8) := by rw [dl]; rfl
  simp only [Option.isNone_none, if_true, hsz, h4, h5, e1, e2, if_pos (show (4 : Int) < 512 by decide), if_pos (show (5 : Int) < 512 by decide), if_pos (show (0 : Int) < 1 by decide)]
  have r1 := right_ev 0 [(⟨#[107]⟩ : ByteArray)] [(⟨#[118]⟩ : ByteArray)] [] (by decide)
  rw [hr] at r1
  exact Ev.bind r1 (Ev.now _)

/-! ### made11 -/
/-- The document's With: as many values as keys, one more at most. -/
theorem refWith_ev (a0 : Int) (keys vals : List ByteArray) (kids : List Int) (key val : ByteArray) (hl : keys.length ≤ 1000) (hv : vals.length = keys.length) : ∃ r : Int × List ByteArray × List ByteArray × List Int, Ev (fun k => posthorseref11_With.f k a0 keys vals kids key val) r ∧ r.2.1.length ≤ keys.length + 1 ∧ r.2.2.1.length = r.2.1.length ∧ r.2.2.2 = [] := by
  unfold posthorseref11_With.f
  have lp : ∀ (d i : Nat), i + d = keys.length → ∀ (dn : Bool) (K V : List ByteArray), V.length = K.length → K.length ≤ i + (if dn = true then 1 else 0) → ∃ r : Int × List ByteArray × List ByteArray × List Int, Ev (fun k => posthorseref11_With.l0 k key val dn (i : Int) a0 keys vals kids 0 K V) r ∧ r.2.1.length ≤ keys.length + 1 ∧ r.2.2.1.length = r.2.1.length ∧ r.2.2.2 = [] := by
    intro d
    induction d with
    | zero =>
      intro i hi dn K V hVK hK
      cases dn with
      | true =>
        refine ⟨(0, K, V, []), ?_, by simp only [if_true] at hK; show K.length ≤ _; omega, hVK, rfl⟩
        refine Ev.suc ?_
        simp only [posthorseref11_With.l0, if_neg (show ¬ (i : Int) < (keys.length : Int) by omega), if_true]
        exact Ev.now _
      | false =>
        simp only [Bool.false_eq_true, if_false] at hK
        refine ⟨(0, K ++ [key], V ++ [val], []), ?_, by show (K ++ [key]).length ≤ _; rw [List.length_append, List.length_singleton]; omega, by show (V ++ [val]).length = (K ++ [key]).length; rw [List.length_append, List.length_append, hVK]; rfl, rfl⟩
        refine Ev.suc ?_
        simp only [posthorseref11_With.l0, if_neg (show ¬ (i : Int) < (keys.length : Int) by omega), Bool.false_eq_true, if_false, Option.bind_some, List.length_singleton, if_pos (show K.length + 1 < 8796093022208 by omega), if_pos (show V.length + 1 < 8796093022208 by omega)]
        exact Ev.now _
    | succ d ih =>
      intro i hi dn K V hVK hK
      have ew : wrap64 ((i : Int) + 1) = ((i + 1 : Nat) : Int) := by rw [w64 (by omega) (by omega)]; omega
      have j2 : ∀ (dn : Bool) (K V : List ByteArray), V.length = K.length → K.length ≤ i + (if dn = true then 1 else 0) → ∃ r : Int × List ByteArray × List ByteArray × List Int, Ev (fun k => posthorseref11_With.j2 k key val dn (i : Int) a0 keys vals kids 0 K V) r ∧ r.2.1.length ≤ keys.length + 1 ∧ r.2.2.1.length = r.2.1.length ∧ r.2.2.2 = [] := by
        intro dn K V hVK hK
        have hb : (if dn = true then 1 else 0) ≤ 1 := by split <;> omega
        by_cases he : (rdOf ByteArray.empty keys (i : Int)).toList = key.toList
        · obtain ⟨r, h1, h2⟩ := ih (i + 1) (by omega) dn K V hVK (by omega)
          refine ⟨r, ?_, h2⟩
          refine Ev.suc ?_
          simp only [posthorseref11_With.j2, if_pos (show (0 : Int) ≤ (i : Int) by omega), if_pos (show (i : Int) < (keys.length : Int) by omega), if_pos he, ew]
          exact h1
        · obtain ⟨r, h1, h2⟩ := ih (i + 1) (by omega) dn (K ++ [rdOf ByteArray.empty keys (i : Int)]) (V ++ [rdOf ByteArray.empty vals (i : Int)]) (by rw [List.length_append, List.length_append, hVK]; rfl) (by rw [List.length_append, List.length_singleton]; omega)
          refine ⟨r, ?_, h2⟩
          refine Ev.suc ?_
          simp only [posthorseref11_With.j2, if_pos (show (0 : Int) ≤ (i : Int) by omega), if_pos (show (i : Int) < (keys.length : Int) by omega), if_pos (show (i : Int) < (vals.length : Int) by omega), if_neg he, ew, Option.bind_some, List.length_singleton, if_pos (show K.length + 1 < 8796093022208 by omega), if_pos (show V.length + 1 < 8796093022208 by omega)]
          exact h1
      have j1f : ∃ r : Int × List ByteArray × List ByteArray × List Int, Ev (fun k => posthorseref11_With.j1 k key val dn (i : Int) false a0 keys vals kids 0 K V) r ∧ r.2.1.length ≤ keys.length + 1 ∧ r.2.2.1.length = r.2.1.length ∧ r.2.2.2 = [] := by
        obtain ⟨r, h1, h2⟩ := j2 dn K V hVK hK
        refine ⟨r, ?_, h2⟩
        refine Ev.suc ?_
        simp only [posthorseref11_With.j1, Bool.false_eq_true, if_false]
        exact h1
      cases hdn : dn with
      | true =>
        obtain ⟨r, h1, h2⟩ := j1f
        rw [hdn] at h1
        refine ⟨r, ?_, h2⟩
        refine Ev.suc ?_
        simp only [posthorseref11_With.l0, if_pos (show (i : Int) < (keys.length : Int) by omega), if_true]
        exact h1
      | false =>
        rw [hdn] at hK j1f
        simp only [Bool.false_eq_true, if_false] at hK
        cases hb : (!(Op.bytesLess (rdOf ByteArray.empty keys (i : Int)).toList key.toList)) with
        | false =>
          obtain ⟨r, h1, h2⟩ := j1f
          refine ⟨r, ?_, h2⟩
          refine Ev.suc ?_
          simp only [posthorseref11_With.l0, if_pos (show (i : Int) < (keys.length : Int) by omega), Bool.false_eq_true, if_false, if_pos (show (0 : Int) ≤ (i : Int) by omega), hb]
          exact h1
        | true =>
          obtain ⟨r, h1, h2⟩ := j2 true (K ++ [key]) (V ++ [val]) (by rw [List.length_append, List.length_append, hVK]; rfl) (by rw [List.length_append, List.length_singleton, if_pos rfl]; omega)
          refine ⟨r, ?_, h2⟩
          refine Ev.suc ?_
          simp only [posthorseref11_With.l0, if_pos (show (i : Int) < (keys.length : Int) by omega), Bool.false_eq_true, if_false, if_pos (show (0 : Int) ≤ (i : Int) by omega), hb]
          refine Ev.suc ?_
          simp only [posthorseref11_With.j1, if_true, Option.bind_some, List.length_singleton, if_pos (show K.length + 1 < 8796093022208 by omega), if_pos (show V.length + 1 < 8796093022208 by omega)]
          exact h1
  exact lp keys.length 0 (by omega) false [] [] rfl (Nat.zero_le _)
theorem mn_nat (n : Nat) (m : Nat) : mn (n : Int) (m : Int) = ((min n m : Nat) : Int) := by unfold mn; split <;> omega
/-- tidy answers some page of few keys. -/
theorem tidy_ev (lv : Int) (keys vals : List ByteArray) (kids : List Int) (hl : keys.length ≤ 100) : ∃ q : Int × List ByteArray × List ByteArray × List Int, Ev (fun k => posthorselaw11_tidy.f k lv keys vals kids) q ∧ q.2.1.length ≤ 1000 ∧ q.2.2.1.length ≤ 1000 ∧ q.2.2.2.length ≤ 1000 := by
  unfold posthorselaw11_tidy.f
  have lp1 : ∀ (K : List ByteArray), K.length ≤ 500 → ∀ (d i : Nat) (L : List Int), i + d = K.length → L.length = i → ∃ q : Int × List ByteArray × List ByteArray × List Int, Ev (fun k => posthorselaw11_tidy.l1 k (i : Int) lv keys vals kids lv K L) q ∧ q.2.1.length ≤ 1000 ∧ q.2.2.1.length ≤ 1000 ∧ q.2.2.2.length ≤ 1000 := by
    intro K hK d
    induction d with
    | zero =>
      intro i L hi hL
      refine ⟨(lv, K, [], L), ?_, by show K.length ≤ 1000; omega, Nat.zero_le _, by show L.length ≤ 1000; omega⟩
      refine Ev.suc ?_
      simp only [posthorselaw11_tidy.l1, if_neg (show ¬ (i : Int) < (K.length : Int) by omega)]
      exact Ev.now _
    | succ d ih =>
      intro i L hi hL
      have ew : wrap64 ((i : Int) + 1) = ((i + 1 : Nat) : Int) := by rw [w64 (by omega) (by omega)]; omega
      by_cases hk : (i : Int) < (kids.length : Int)
      · obtain ⟨q, h1, h2⟩ := ih (i + 1) (L ++ [wrap64 (1 + (Go.bits .and .i64 (rd kids (i : Int)) 511))]) (by omega) (by rw [List.length_append, hL]; rfl)
        refine ⟨q, ?_, h2⟩
        refine Ev.suc ?_
        simp only [posthorselaw11_tidy.l1, if_pos (show (i : Int) < (K.length : Int) by omega), if_pos hk, if_pos (show (0 : Int) ≤ (i : Int) by omega), if_pos (show L.length < 17592186044416 by omega), ew]
        exact h1
      · obtain ⟨q, h1, h2⟩ := ih (i + 1) (L ++ [wrap64 (1 + (i : Int))]) (by omega) (by rw [List.length_append, hL]; rfl)
        refine ⟨q, ?_, h2⟩
        refine Ev.suc ?_
        simp only [posthorselaw11_tidy.l1, if_pos (show (i : Int) < (K.length : Int) by omega), if_neg hk, if_pos (show L.length < 17592186044416 by omega), ew]
        exact h1
  have fin : ∀ (b : Bool) (p0 : Int) (K V : List ByteArray) (D : List Int), K.length ≤ 100 → V.length = K.length → D.length ≤ 1000 → ∃ q : Int × List ByteArray × List ByteArray × List Int, Ev (fun k => posthorselaw11_tidy.j2 k b lv keys vals kids p0 K V D) q ∧ q.2.1.length ≤ 1000 ∧ q.2.2.1.length ≤ 1000 ∧ q.2.2.2.length ≤ 1000 := by
    intro b p0 K V D hK hV hD
    cases b with
    | true =>
      refine ⟨(p0, K, V, D), ?_, by show K.length ≤ 1000; omega, by show V.length ≤ 1000; omega, hD⟩
      refine Ev.suc ?_
      simp only [posthorselaw11_tidy.j2, if_true]
      exact Ev.now _
    | false =>
      obtain ⟨q, h1, h2⟩ := lp1 ([(⟨#[]⟩ : ByteArray)] ++ K) (by rw [List.length_append, List.length_singleton]; omega) ([(⟨#[]⟩ : ByteArray)] ++ K).length 0 [] (by omega) rfl
      refine ⟨q, ?_, h2⟩
      refine Ev.suc ?_
      simp only [posthorselaw11_tidy.j2, Bool.false_eq_true, if_false, Option.bind_some, List.length_singleton, if_pos (show 1 + K.length < 8796093022208 by omega)]
      exact h1
  have lp0 : ∀ (d i : Nat) (p0 : Int) (K V : List ByteArray) (D : List Int), i + d = keys.length → K.length ≤ i → V.length = K.length → D.length ≤ 1000 → ∃ q : Int × List ByteArray × List ByteArray × List Int, Ev (fun k => posthorselaw11_tidy.l0 k (i : Int) lv keys vals kids p0 K V D) q ∧ q.2.1.length ≤ 1000 ∧ q.2.2.1.length ≤ 1000 ∧ q.2.2.2.length ≤ 1000 := by
    intro d
    induction d with
    | zero =>
      intro i p0 K V D hi hK hV hD
      by_cases h1 : lv < 1
      · obtain ⟨q, h3, h4⟩ := fin true p0 K V D (by omega) hV hD
        refine ⟨q, ?_, h4⟩
        refine Ev.suc ?_
        simp only [posthorselaw11_tidy.l0, if_neg (show ¬ (i : Int) < (keys.length : Int) by omega), if_pos h1]
        exact h3
      · obtain ⟨q, h3, h4⟩ := fin (decide (lv > 5)) p0 K V D (by omega) hV hD
        refine ⟨q, ?_, h4⟩
        refine Ev.suc ?_
        simp only [posthorselaw11_tidy.l0, if_neg (show ¬ (i : Int) < (keys.length : Int) by omega), if_neg h1]
        exact h3
    | succ d ih =>
      intro i p0 K V D hi hK hV hD
      have ew : wrap64 ((i : Int) + 1) = ((i + 1 : Nat) : Int) := by rw [w64 (by omega) (by omega)]; omega
      have j1 : ∀ x y : ByteArray, ∃ q : Int × List ByteArray × List ByteArray × List Int, Ev (fun k => posthorselaw11_tidy.j1 k (i : Int) x y lv keys vals kids p0 K V D) q ∧ q.2.1.length ≤ 1000 ∧ q.2.2.1.length ≤ 1000 ∧ q.2.2.2.length ≤ 1000 := by
        intro x y
        by_cases hx : x.toList = ([] : List UInt8)
        · obtain ⟨q, h3, h4⟩ := ih (i + 1) p0 K V D (by omega) (by omega) hV hD
          refine ⟨q, ?_, h4⟩
          refine Ev.suc ?_
          simp only [posthorselaw11_tidy.j1, if_pos hx, ew]
          exact h3
        · obtain ⟨r, r1, r2, r3, r4⟩ := refWith_ev p0 K V D x y (by omega) hV
          obtain ⟨q, h3, h4⟩ := ih (i + 1) r.1 r.2.1 r.2.2.1 r.2.2.2 (by omega) (by omega) r3 (by rw [r4]; exact Nat.zero_le _)
          refine ⟨q, ?_, h4⟩
          refine Ev.suc ?_
          simp only [posthorselaw11_tidy.j1, if_neg hx, ew]
          exact Ev.bind r1 h3
      have m1 : mn ((rdOf ByteArray.empty keys (i : Int)).size : Int) 16 = ((min (rdOf ByteArray.empty keys (i : Int)).size 16 : Nat) : Int) := mn_nat _ 16
      have m2 : mn ((rdOf ByteArray.empty vals (i : Int)).size : Int) 24 = ((min (rdOf ByteArray.empty vals (i : Int)).size 24 : Nat) : Int) := mn_nat _ 24
      by_cases hv : (i : Int) < (vals.length : Int)
      · obtain ⟨q, h3, h4⟩ := j1 ((rdOf ByteArray.empty keys (i : Int)).extract 0 (mn ((rdOf ByteArray.empty keys (i : Int)).size : Int) 16).toNat) ((rdOf ByteArray.empty vals (i : Int)).extract 0 (mn ((rdOf ByteArray.empty vals (i : Int)).size : Int) 24).toNat)
        refine ⟨q, ?_, h4⟩
        refine Ev.suc ?_
        simp only [posthorselaw11_tidy.l0, if_pos (show (i : Int) < (keys.length : Int) by omega), if_pos (show (0 : Int) ≤ (i : Int) by omega), if_pos (show (0 : Int) ≤ mn ((rdOf ByteArray.empty keys (i : Int)).size : Int) 16 by omega), if_pos (show mn ((rdOf ByteArray.empty keys (i : Int)).size : Int) 16 ≤ ((rdOf ByteArray.empty keys (i : Int)).size : Int) by omega), if_pos hv, if_pos (show (0 : Int) ≤ mn ((rdOf ByteArray.empty vals (i : Int)).size : Int) 24 by omega), if_pos (show mn ((rdOf ByteArray.empty vals (i : Int)).size : Int) 24 ≤ ((rdOf ByteArray.empty vals (i : Int)).size : Int) by omega)]
        exact h3
      · obtain ⟨q, h3, h4⟩ := j1 ((rdOf ByteArray.empty keys (i : Int)).extract 0 (mn ((rdOf ByteArray.empty keys (i : Int)).size : Int) 16).toNat) (⟨#[]⟩ : ByteArray)
        refine ⟨q, ?_, h4⟩
        refine Ev.suc ?_
        simp only [posthorselaw11_tidy.l0, if_pos (show (i : Int) < (keys.length : Int) by omega), if_pos (show (0 : Int) ≤ (i : Int) by omega), if_pos (show (0 : Int) ≤ mn ((rdOf ByteArray.empty keys (i : Int)).size : Int) 16 by omega), if_pos (show mn ((rdOf ByteArray.empty keys (i : Int)).size : Int) 16 ≤ ((rdOf ByteArray.empty keys (i : Int)).size : Int) by omega), if_neg hv]
        exact h3
  exact lp0 keys.length 0 0 [] [] [] (by omega) (Nat.zero_le _) rfl (Nat.zero_le _)
/-- made: some page, twice. -/
theorem made11_ev (a0 : Int) (l1 l2 : List ByteArray) (l3 : List Int) (a4 : Bool) : ∃ q : Int × List ByteArray × List ByteArray × List Int, Ev (fun k => posthorselaw11_made.f k a0 l1 l2 l3 a4) (q.1, q.2.1, q.2.2.1, q.2.2.2, q.1, q.2.1, q.2.2.1, q.2.2.2) ∧ q.2.1.length ≤ 1000 ∧ q.2.2.1.length ≤ 1000 ∧ q.2.2.2.length ≤ 1000 := by
  unfold posthorselaw11_made.f
  have t1 : ((l1.take 30).map (cutS 20)).length ≤ 30 := by rw [List.length_map, List.length_take]; omega
  have t2 : ((l2.take 30).map (cutS 30)).length ≤ 30 := by rw [List.length_map, List.length_take]; omega
  have t3 : (l3.take 30).length ≤ 30 := by rw [List.length_take]; omega
  cases a4 with
  | true =>
    obtain ⟨q, h1, h2⟩ := tidy_ev a0 ((l1.take 30).map (cutS 20)) ((l2.take 30).map (cutS 30)) (l3.take 30) (by omega)
    refine ⟨q, ?_, h2⟩
    simp only [if_true]
    refine Ev.bind h1 ?_
    simp only [if_pos h2]
    exact Ev.now _
  | false =>
    refine ⟨(a0, (l1.take 30).map (cutS 20), (l2.take 30).map (cutS 30), l3.take 30), ?_, by show ((l1.take 30).map (cutS 20)).length ≤ 1000; omega, by show ((l2.take 30).map (cutS 30)).length ≤ 1000; omega, by show (l3.take 30).length ≤ 1000; omega⟩
    simp only [Bool.false_eq_true, if_false, Option.bind_some]
    simp only [if_pos (show ((l1.take 30).map (cutS 20)).length ≤ 1000 ∧ ((l2.take 30).map (cutS 30)).length ≤ 1000 ∧ (l3.take 30).length ≤ 1000 from ⟨by omega, by omega, by omega⟩)]
    exact Ev.now _
/-- A page is the same as itself. -/
theorem same11_ev (lv : Int) (keys vals : List ByteArray) (kids : List Int) (hl : keys.length ≤ 1000) (hv : vals.length ≤ 1000) (hd : kids.length ≤ 1000) : Ev (fun k => posthorselaw11_same.f k lv keys vals kids lv keys vals kids) true := by
  have l2 : ∀ (d i : Nat), i + d = kids.length → Ev (fun k => posthorselaw11_same.l2 k (i : Int) lv keys vals kids lv keys vals kids) true := by
    intro d
    induction d with
    | zero =>
      intro i hi
      refine Ev.suc ?_
      simp only [posthorselaw11_same.l2, if_neg (show ¬ (i : Int) < (kids.length : Int) by omega)]
      exact Ev.now _
    | succ d ih =>
      intro i hi
      have ew : wrap64 ((i : Int) + 1) = ((i + 1 : Nat) : Int) := by rw [w64 (by omega) (by omega)]; omega
      refine Ev.suc ?_
      simp only [posthorselaw11_same.l2, if_pos (show (i : Int) < (kids.length : Int) by omega), if_pos (show (0 : Int) ≤ (i : Int) by omega), eq_self, if_true, ew]
      exact ih (i + 1) (by omega)
  have l1 : ∀ (d i : Nat), i + d = vals.length → Ev (fun k => posthorselaw11_same.l1 k (i : Int) lv keys vals kids lv keys vals kids) true := by
    intro d
    induction d with
    | zero =>
      intro i hi
      refine Ev.suc ?_
      simp only [posthorselaw11_same.l1, if_neg (show ¬ (i : Int) < (vals.length : Int) by omega)]
      exact l2 kids.length 0 (by omega)
    | succ d ih =>
      intro i hi
      have ew : wrap64 ((i : Int) + 1) = ((i + 1 : Nat) : Int) := by rw [w64 (by omega) (by omega)]; omega
      refine Ev.suc ?_
      simp only [posthorselaw11_same.l1, if_pos (show (i : Int) < (vals.length : Int) by omega), if_pos (show (0 : Int) ≤ (i : Int) by omega), eq_self, if_true, ew]
      exact ih (i + 1) (by omega)
  have l0 : ∀ (d i : Nat), i + d = keys.length → Ev (fun k => posthorselaw11_same.l0 k (i : Int) lv keys vals kids lv keys vals kids) true := by
    intro d
    induction d with
    | zero =>
      intro i hi
      refine Ev.suc ?_
      simp only [posthorselaw11_same.l0, if_neg (show ¬ (i : Int) < (keys.length : Int) by omega)]
      exact l1 vals.length 0 (by omega)
    | succ d ih =>
      intro i hi
      have ew : wrap64 ((i : Int) + 1) = ((i + 1 : Nat) : Int) := by rw [w64 (by omega) (by omega)]; omega
      refine Ev.suc ?_
      simp only [posthorselaw11_same.l0, if_pos (show (i : Int) < (keys.length : Int) by omega), if_pos (show (0 : Int) ≤ (i : Int) by omega), eq_self, if_true, ew]
      exact ih (i + 1) (by omega)
  unfold posthorselaw11_same.f
  simp only [eq_self, if_true, bne_self_eq_false]
  refine Ev.suc ?_
  simp only [posthorselaw11_same.j0, Bool.false_eq_true, if_false]
  exact l0 keys.length 0 (by omega)

/-! ### same11 -/
theorem drop_step {α : Type} (a b : List α) (i : Nat) (ha : i < a.length) (hb : i < b.length) : (a.drop i = b.drop i) ↔ (a[i] = b[i] ∧ a.drop (i + 1) = b.drop (i + 1)) := by
  rw [List.drop_eq_getElem_cons ha, List.drop_eq_getElem_cons hb, List.cons.injEq]
theorem drop_nil2 {α : Type} (a b : List α) (i : Nat) (ha : a.length ≤ i) (hb : b.length ≤ i) : a.drop i = b.drop i := by
  rw [List.drop_eq_nil_of_le ha, List.drop_eq_nil_of_le hb]
theorem rdOf_drop (a b : List ByteArray) (i : Nat) (ha : i < a.length) (hb : i < b.length) : (a.drop i = b.drop i) ↔ ((rdOf ByteArray.empty a (i : Int)).toList = (rdOf ByteArray.empty b (i : Int)).toList ∧ a.drop (i + 1) = b.drop (i + 1)) := by
  rw [drop_step a b i ha hb, rdOf_at _ a i ha, rdOf_at _ b i hb, dl, dl, deq]
theorem rd_drop (a b : List Int) (i : Nat) (ha : i < a.length) (hb : i < b.length) : (a.drop i = b.drop i) ↔ (rd a (i : Int) = rd b (i : Int) ∧ a.drop (i + 1) = b.drop (i + 1)) := by
  rw [drop_step a b i ha hb, rd_at a i ha, rd_at b i hb]
theorem Ev.cast {α : Type} {g : Nat → Option α} {r r' : α} (h : Ev g r) (e : r = r') : Ev g r' := e ▸ h
theorem dec2 {p q : Prop} [Decidable p] [Decidable q] (h : p ↔ q) : decide p = decide q := by
  by_cases hp : p
  · rw [decide_eq_true hp, decide_eq_true (h.1 hp)]
  · rw [decide_eq_false hp, decide_eq_false (fun hq => hp (h.2 hq))]
/-- Two pages are the same just where all in them is. -/
theorem same11_dec (lv lv' : Int) (keys vals keys' vals' : List ByteArray) (kids kids' : List Int) (hl : keys'.length ≤ 1000) (hv : vals'.length ≤ 1000) (hd : kids'.length ≤ 1000) : Ev (fun k => posthorselaw11_same.f k lv keys vals kids lv' keys' vals' kids') (decide (lv = lv' ∧ keys = keys' ∧ vals = vals' ∧ kids = kids')) := by
  have l2 : kids.length = kids'.length → ∀ (d i : Nat), i + d = kids'.length → Ev (fun k => posthorselaw11_same.l2 k (i : Int) lv keys vals kids lv' keys' vals' kids') (decide (kids.drop i = kids'.drop i)) := by
    intro hn d
    induction d with
    | zero =>
      intro i hi
      rw [decide_eq_true (drop_nil2 kids kids' i (by omega) (by omega))]
      refine Ev.suc ?_
      simp only [posthorselaw11_same.l2, if_neg (show ¬ (i : Int) < (kids'.length : Int) by omega)]
      exact Ev.now _
    | succ d ih =>
      intro i hi
      have ew : wrap64 ((i : Int) + 1) = ((i + 1 : Nat) : Int) := by rw [w64 (by omega) (by omega)]; omega
      refine Ev.suc ?_
      simp only [posthorselaw11_same.l2, if_pos (show (i : Int) < (kids'.length : Int) by omega), if_pos (show (i : Int) < (kids.length : Int) by omega), if_pos (show (0 : Int) ≤ (i : Int) by omega), ew]
      have hs := rd_drop kids kids' i (by omega) (by omega)
      by_cases e : rd kids (i : Int) = rd kids' (i : Int)
      · simp only [if_pos e]
        exact Ev.cast (ih (i + 1) (by omega)) (dec2 (by rw [hs]; simp [e]))
      · simp only [if_neg e]
        rw [decide_eq_false (fun h => e (hs.1 h).1)]
        exact Ev.now _
  have l1 : vals.length = vals'.length → kids.length = kids'.length → ∀ (d i : Nat), i + d = vals'.length → Ev (fun k => posthorselaw11_same.l1 k (i : Int) lv keys vals kids lv' keys' vals' kids') (decide (vals.drop i = vals'.drop i ∧ kids = kids')) := by
    intro hm hn d
    induction d with
    | zero =>
      intro i hi
      refine Ev.suc ?_
      simp only [posthorselaw11_same.l1, if_neg (show ¬ (i : Int) < (vals'.length : Int) by omega)]
      exact Ev.cast (l2 hn kids'.length 0 (by omega)) (dec2 (by simp [drop_nil2 vals vals' i (by omega) (by omega)]))
    | succ d ih =>
      intro i hi
      have ew : wrap64 ((i : Int) + 1) = ((i + 1 : Nat) : Int) := by rw [w64 (by omega) (by omega)]; omega
      refine Ev.suc ?_
      simp only [posthorselaw11_same.l1, if_pos (show (i : Int) < (vals'.length : Int) by omega), if_pos (show (i : Int) < (vals.length : Int) by omega), if_pos (show (0 : Int) ≤ (i : Int) by omega), ew]
      have hs := rdOf_drop vals vals' i (by omega) (by omega)
      by_cases e : (rdOf ByteArray.empty vals (i : Int)).toList = (rdOf ByteArray.empty vals' (i : Int)).toList
      · simp only [if_pos e]
        exact Ev.cast (ih (i + 1) (by omega)) (dec2 (by rw [hs]; simp [e]))
      · simp only [if_neg e]
        rw [decide_eq_false (fun h => e (hs.1 h.1).1)]
        exact Ev.now _
  have l0 : keys.length = keys'.length → vals.length = vals'.length → kids.length = kids'.length → ∀ (d i : Nat), i + d = keys'.length → Ev (fun k => posthorselaw11_same.l0 k (i : Int) lv keys vals kids lv' keys' vals' kids') (decide (keys.drop i = keys'.drop i ∧ vals = vals' ∧ kids = kids')) := by
    intro hk hm hn d
    induction d with
    | zero =>
      intro i hi
      refine Ev.suc ?_
      simp only [posthorselaw11_same.l0, if_neg (show ¬ (i : Int) < (keys'.length : Int) by omega)]
      exact Ev.cast (l1 hm hn vals'.length 0 (by omega)) (dec2 (by simp [drop_nil2 keys keys' i (by omega) (by omega)]))
    | succ d ih =>
      intro i hi
      have ew : wrap64 ((i : Int) + 1) = ((i + 1 : Nat) : Int) := by rw [w64 (by omega) (by omega)]; omega
      refine Ev.suc ?_
      simp only [posthorselaw11_same.l0, if_pos (show (i : Int) < (keys'.length : Int) by omega), if_pos (show (i : Int) < (keys.length : Int) by omega), if_pos (show (0 : Int) ≤ (i : Int) by omega), ew]
      have hs := rdOf_drop keys keys' i (by omega) (by omega)
      by_cases e : (rdOf ByteArray.empty keys (i : Int)).toList = (rdOf ByteArray.empty keys' (i : Int)).toList
      · simp only [if_pos e]
        exact Ev.cast (ih (i + 1) (by omega)) (dec2 (by rw [hs]; simp [e]))
      · simp only [if_neg e]
        rw [decide_eq_false (fun h => e (hs.1 h.1).1)]
        exact Ev.now _
  have no : ∀ p : Prop, [Decidable p] → ¬ p → Ev (fun k => posthorselaw11_same.j0 k true lv keys vals kids lv' keys' vals' kids') (decide p) := fun p _ hp => by
    rw [decide_eq_false hp]
    refine Ev.suc ?_
    simp only [posthorselaw11_same.j0, if_true]
    exact Ev.now _
  unfold posthorselaw11_same.f
  by_cases c1 : lv = lv'
  case neg => simp only [if_neg c1]; exact no _ (fun h => c1 h.1)
  by_cases c2 : (keys.length : Int) = (keys'.length : Int)
  case neg => simp only [if_pos c1, if_neg c2]; exact no _ (fun h => c2 (by rw [h.2.1]))
  by_cases c3 : (vals.length : Int) = (vals'.length : Int)
  case neg => simp only [if_pos c1, if_pos c2, if_neg c3]; exact no _ (fun h => c3 (by rw [h.2.2.1]))
  simp only [if_pos c1, if_pos c2, if_pos c3]
  by_cases c4 : (kids.length : Int) = (kids'.length : Int)
  · rw [show ((kids.length : Int) != (kids'.length : Int)) = false from by rw [bne_eq_false_iff_eq]; exact c4]
    refine Ev.suc ?_
    simp only [posthorselaw11_same.j0, Bool.false_eq_true, if_false]
    exact Ev.cast (l0 (by omega) (by omega) (by omega) keys'.length 0 (by omega)) (dec2 (by simp [c1]))
  · rw [show ((kids.length : Int) != (kids'.length : Int)) = true from by rw [bne_iff_ne]; exact c4]
    exact no _ (fun h => c4 (by rw [h.2.2.2]))

/-! ### PageApart -/
theorem Ev.uniq {α : Type} {g : Nat → Option α} {r r' : α} (h : Ev g r) (h' : Ev g r') : r = r' := by
  obtain ⟨k, hk⟩ := h
  obtain ⟨j, hj⟩ := h'
  have a := hk (k + j) (by omega)
  have b := hj (k + j) (by omega)
  exact Option.some.inj (a.symm.trans b)
theorem PageApart : PageApart.Pure := by
  intro a0 l1 l2 l3 a4 b0 m1 m2 m3 b4 _ _ _ _ _ _ _ _
  refine Ev.rounds (g := fun k => posthorselaw11_PageApart.f k a0 l1 l2 l3 a4 b0 m1 m2 m3 b4) ?_
  unfold posthorselaw11_PageApart.f
  refine Ev.bind speaks11_ev ?_
  simp only [if_true]
  obtain ⟨⟨lv, keys, vals, kids⟩, hm, h1, h2, h3⟩ := made11_ev a0 l1 l2 l3 true
  obtain ⟨⟨lv', keys', vals', kids'⟩, hm', h1', h2', h3'⟩ := made11_ev b0 m1 m2 m3 true
  simp only at hm h1 h2 h3 hm' h1' h2' h3'
  refine Ev.bind hm ?_
  simp only
  refine Ev.bind hm' ?_
  simp only
  refine Ev.bind (put11_ev lv keys vals kids h1) (Ev.bind (put11_ev lv' keys' vals' kids' h1') ?_)
  by_cases hr : rightP lv keys vals kids = true
  case neg =>
    simp only [if_neg hr, Option.isNone_some, Bool.false_eq_true, if_false]
    exact Ev.now _
  by_cases hr' : rightP lv' keys' vals' kids' = true
  case neg =>
    simp only [if_pos hr, if_neg hr', Option.isNone_some, Option.isNone_none, Bool.false_eq_true, if_true, if_false]
    exact Ev.now _
  simp only [if_pos hr, if_pos hr', Option.isNone_none, if_true]
  refine Ev.bind (same11_dec lv lv' keys vals keys' vals' kids kids' h1' h2' h3') ?_
  refine Ev.cast (Ev.now _) ?_
  have g1 := get11_ev lv keys vals kids hr
  have g2 := get11_ev lv' keys' vals' kids' hr'
  by_cases he : lv = lv' ∧ keys = keys' ∧ vals = vals' ∧ kids = kids'
  · obtain ⟨rfl, rfl, rfl, rfl⟩ := he
    simp
  · rw [decide_eq_false he]
    have hne : ¬ ((⟨(sealL 8 (putP lv keys vals kids)).toArray⟩ : ByteArray).toList = (⟨(sealL 8 (putP lv' keys' vals' kids')).toArray⟩ : ByteArray).toList) := by
      intro hs
      rw [dl, dl, ← deq] at hs
      rw [hs] at g1
      have hu := Ev.uniq g1 g2
      simp only [Prod.mk.injEq] at hu
      exact he ⟨hu.1, hu.2.1, hu.2.2.1, hu.2.2.2.1⟩
    rw [beq_eq_false_iff_ne.2 hne]
    rfl

end Go.Proofs.YtegcaniikdibdaaDoor.Pure
