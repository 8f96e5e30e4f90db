/- LeReads of layer 1: any bytes, read by any sizes: each answer, and the first error; for every input, no condition. -/
import Derived.Test.YtdlmgjpnlgdpkaaDoorVLeReadsx14
import Derived.OpenShut
import Derived.Lib.IndexEntry
namespace Go.Proofs.YtdlmgjpnlgdpkaaDoor.Pure
open Go Go.RowKit Go.Proofs.YtdlmgjpnlgdpkaaDoor.VLeReads Go.Proofs.YtdlmgjpnlgdpkaaDoorW.PrintWords Go.Proofs.YtdlmgjpnlgdpkaaDoorW.PrintLast
set_option linter.unusedSimpArgs false
set_option linter.unusedVariables false

def LeReads.Pure : Prop := ∀ (a0 : ByteArray) (l1 : List (S47)), a0.size ≤ 140737488351232 → (l1.length * 40 ≤ 140737488351232 ∧ l1.length ≤ maxLen ∧ ∀ l1y ∈ l1, (l1y.f0.size ≤ 140737488351232 ∧ (Lit.int .i64 l1y.f1).wf = true ∧ (Lit.int .i64 l1y.f2).wf = true ∧ True)) → ∃ k, posthorselaw01_LeReads.f k a0 l1 = some true
/-! ### base -/
theorem dl (s : ByteArray) : s.toList = s.data.toList := Lib.toList_data s
theorem deq {a b : ByteArray} : a = b ↔ a.data.toList = b.data.toList := ⟨fun h => by rw [h], fun h => Go.WideShapes.bytes_inj h⟩
theorem dapp (a b : ByteArray) : (a ++ b).data.toList = a.data.toList ++ b.data.toList := by simp
theorem dlen (a : ByteArray) : a.data.toList.length = a.size := by rw [Array.length_toList]; rfl
theorem w64 {n : Int} (h0 : -9223372036854775808 ≤ n) (h1 : n ≤ 9223372036854775807) : wrap64 n = n := by unfold wrap64; omega
theorem i64b {n : Int} (h : (Lit.int .i64 n).wf = true) : -9223372036854775808 ≤ n ∧ n ≤ 9223372036854775807 := bounds_i64 h
theorem u8w (n : Int) : IntKind.u8.wrap n = n % 256 := IntKind.wrap_u8 n
theorem Ev.all {α : Type} {g : Nat → Option α} {r : α} (h : ∀ k, g k = some r) : Ev g r := ⟨0, fun k _ => h k⟩
theorem Ev.bindS {α β : Type} {g : Nat → Option α} {f : Nat → α → Option β} {a : α} {r : β} (h : Ev g a) (k : Ev (fun n => f n a) r) : Ev (fun n => (g n).bind (f n)) r := Ev.bind h k
theorem Ev.from {α : Type} {g : Nat → Option α} {r : α} (j : Nat) (h : ∀ k, g (k + j) = some r) : Ev g r := ⟨j, fun k hk => by have := h (k - j); rwa [Nat.sub_add_cancel hk] at this⟩
theorem Ev.to {α : Type} {g : Nat → Option α} {r : α} (h : Ev g r) : ∃ k, g k = some r := h.rounds
theorem Ev.at_ {α : Type} {g : Nat → Option α} {r : α} (hg : ∀ k, LeO (g k) (g (k + 1))) {j : Nat} (h : g j = some r) : Ev g r := Ev.of hg h

/-! ### le -/
/-- The bytes of a number, the lowest first. -/
def leB : Nat → Nat → List UInt8
  | 0, _ => []
  | s + 1, n => UInt8.ofNat (n % 256) :: leB s (n / 256)
theorem leB_len : ∀ s n, (leB s n).length = s
  | 0, _ => rfl
  | s + 1, n => by rw [leB, List.length_cons, leB_len s]
/-- .. and back. -/
def unB : List UInt8 → Nat
  | [] => 0
  | b :: r => b.toNat + 256 * unB r
theorem unB_leB : ∀ s n, unB (leB s n) = n % 256 ^ s
  | 0, n => by simp [leB, unB, Nat.mod_one]
  | s + 1, n => by
    rw [leB, unB, unB_leB s]
    have h1 : (UInt8.ofNat (n % 256)).toNat = n % 256 := by simp
    rw [h1, Nat.pow_succ', Nat.mod_mul]
theorem unB_lt : ∀ l : List UInt8, unB l < 256 ^ l.length
  | [] => by simp [unB]
  | b :: r => by
    have := unB_lt r
    have := b.toNat_lt
    rw [unB, List.length_cons, Nat.pow_succ]
    omega
theorem leB_unB : ∀ l : List UInt8, leB l.length (unB l) = l
  | [] => rfl
  | b :: r => by
    have hb := b.toNat_lt
    rw [unB, List.length_cons, leB]
    have h1 : (b.toNat + 256 * unB r) % 256 = b.toNat := by omega
    have h2 : (b.toNat + 256 * unB r) / 256 = unB r := by omega
    rw [h1, h2, leB_unB r]; simp
theorem leB_get : ∀ (s n j : Nat), j < s → (leB s n)[j]? = some (UInt8.ofNat (n / 256 ^ j % 256))
  | s + 1, n, 0, _ => by simp [leB]
  | s + 1, n, j + 1, h => by
    rw [leB, List.getElem?_cons_succ, leB_get s _ j (by omega), Nat.div_div_eq_div_mul, Nat.pow_succ']
/-- What Put answers. -/
def lePutS (n size : Int) : ByteArray := if 1 ≤ size ∧ size ≤ 7 ∧ 0 ≤ n ∧ n < 256 ^ size.toNat then ⟨(leB size.toNat n.toNat).toArray⟩ else ⟨#[]⟩
/-- The row that Put fills, behind i rounds. -/
def leRow (n : Int) (size i : Nat) : List Int := (List.range size).map fun j => if j < i then n / 256 ^ j % 256 else 0
theorem leRow_len (n : Int) (size i : Nat) : (leRow n size i).length = size := by simp [leRow]
theorem leRow_set (n : Int) (size i : Nat) (_ : i < size) : (leRow n size i).set i (n / 256 ^ i % 256) = leRow n size (i + 1) := by
  apply List.ext_getElem
  · simp [leRow]
  · intro j h1 h2
    simp only [leRow, List.length_map, List.length_range, List.length_set] at h1 h2
    rw [List.getElem_set]
    simp only [leRow, List.getElem_map, List.getElem_range]
    by_cases e : i = j
    · subst e; simp
    · rw [if_neg e]
      by_cases hj : j < i
      · rw [if_pos hj, if_pos (by omega)]
      · rw [if_neg hj, if_neg (by omega)]
theorem divcast (m s : Nat) : (m : Int) / 256 ^ s = ((m / 256 ^ s : Nat) : Int) := by
  rw [Int.natCast_ediv]; congr 1
theorem leRow_full (n : Nat) (size : Nat) : Go.strOfNums (leRow n size size) = ⟨(leB size n).toArray⟩ := by
  unfold Go.strOfNums
  congr 2
  apply List.ext_getElem?
  intro j
  by_cases hj : j < size
  · rw [leB_get _ _ _ hj, leRow, List.getElem?_map, List.getElem?_map, List.getElem?_range hj]
    simp only [Option.map_some, if_pos hj]
    have : ((n : Int) / 256 ^ j % 256).toNat = n / 256 ^ j % 256 := by
      have h1 : ((n : Int) / 256 ^ j % 256) = ((n / 256 ^ j % 256 : Nat) : Int) := by rw [divcast]; rfl
      rw [h1, Int.toNat_natCast]
    rw [this]
  · rw [List.getElem?_eq_none (by simp [leRow]; omega), List.getElem?_eq_none (by rw [leB_len]; omega)]
theorem shr_pow (n : Int) (i : Nat) (hi : i ≤ 7) : shr .i64 n (wrap64 (8 * (i : Int))) = n / 256 ^ i := by
  rw [w64 (by omega) (by omega)]
  unfold shr
  have h1 : min (8 * (i : Int)).toNat (IntKind.bits .i64) = 8 * i := by
    have h2 : (8 * (i : Int)).toNat = 8 * i := by omega
    rw [h2]; show min (8 * i) 64 = 8 * i; omega
  rw [h1]
  have h3 : (2 : Int) ^ (8 * i) = 256 ^ i := by
    have h := congrArg (fun x : Nat => (x : Int)) (Nat.pow_mul 2 8 i)
    simp only [Int.natCast_pow] at h
    exact h
  rw [h3]
theorem le_Put_loop (n : Int) (size : Nat) (hs : size ≤ 7) (h0 : 0 ≤ n) : ∀ (d i : Nat), i + d = size → Ev (fun k => le_Put.l0 k n (leRow n size i) (size : Int) (i : Int)) (Go.strOfNums (leRow n size size)) := by
  intro d
  induction d with
  | zero =>
    intro i hi
    obtain rfl : i = size := by omega
    refine Ev.from 1 fun k => ?_
    rw [le_Put.l0, if_neg (by omega)]
  | succ d ih =>
    intro i hi
    refine Ev.step (f := fun k => le_Put.l0 k n (leRow n size (i + 1)) (size : Int) ((i + 1 : Nat) : Int)) (fun k => ?_) (ih (i + 1) (by omega))
    have e1 : wrap64 (8 * (i : Int)) = 8 * (i : Int) := w64 (by omega) (by omega)
    have e2 : wrap64 ((i : Int) + 1) = ((i + 1 : Nat) : Int) := by rw [w64 (by omega) (by omega)]; omega
    rw [le_Put.l0, if_pos (by omega), if_pos (by rw [e1]; omega), if_pos (by omega), if_pos (by rw [leRow_len]; omega), e2, shr_pow n i (by omega), Int.toNat_natCast, leRow_set n size i (by omega)]
theorem le_Put_ev (n size : Int) (hn : (Lit.int .i64 n).wf = true) : Ev (fun k => le_Put.f k n size) (lePutS n size) := by
  have bn := i64b hn
  have bad : ∀ (n size : Int), ¬ (1 ≤ size ∧ size ≤ 7 ∧ 0 ≤ n ∧ n < 256 ^ size.toNat) → Ev (fun k => le_Put.j0 k n size true) (lePutS n size) := by
    intro n size h
    refine Ev.from 1 fun k => ?_
    rw [le_Put.j0, if_pos rfl, lePutS, if_neg h]
  unfold le_Put.f
  by_cases h1 : size < 1
  · simp only [if_pos h1]; exact bad n size (by omega)
  · by_cases h2 : size > 7
    · simp only [if_neg h1, if_pos h2]; exact bad n size (by omega)
    · by_cases h3 : n < 0
      · simp only [if_neg h1, if_neg h2, if_pos h3]; exact bad n size (by omega)
      · obtain ⟨s, rfl⟩ := Int.eq_ofNat_of_zero_le (show 0 ≤ size by omega)
        obtain ⟨m, rfl⟩ := Int.eq_ofNat_of_zero_le (show 0 ≤ n by omega)
        have e1 : wrap64 (8 * (s : Int)) = 8 * (s : Int) := w64 (by omega) (by omega)
        simp only [if_neg h1, if_neg h2, if_neg h3, if_pos (show 0 ≤ wrap64 (8 * (s : Int)) by rw [e1]; omega)]
        rw [shr_pow _ s (by omega)]
        by_cases h4 : m < 256 ^ s
        · have e3 : ((m : Int) / 256 ^ s != 0) = false := by
            rw [divcast, Nat.div_eq_of_lt h4]; rfl
          rw [e3]
          refine Ev.step (f := fun k => le_Put.l0 k (m : Int) (leRow m s 0) (s : Int) ((0 : Nat) : Int)) (fun k => ?_) ?_
          · rw [le_Put.j0, if_neg (by decide), if_pos (by omega), if_pos (by omega)]
            have e4 : (List.replicate (s : Int).toNat 0 : List Int) = leRow m s 0 := by
              rw [Int.toNat_natCast]
              apply List.ext_getElem
              · simp [leRow]
              · intro j h1 h2; simp [leRow]
            simp only [Option.bind_some, e4, leRow_len]
            rfl
          · have := le_Put_loop (m : Int) s (by omega) (by omega) s 0 (by omega)
            rw [leRow_full] at this
            have e5 : lePutS (m : Int) (s : Int) = ⟨(leB s m).toArray⟩ := by
              unfold lePutS
              rw [if_pos ⟨by omega, by omega, by omega, by rw [Int.toNat_natCast]; have h' := Int.ofNat_lt.2 h4; rw [Int.natCast_pow] at h'; exact h'⟩, Int.toNat_natCast, Int.toNat_natCast]
            rw [e5]; exact this
        · have e3 : ((m : Int) / 256 ^ s != 0) = true := by
            rw [divcast, bne_iff_ne]
            have : 0 < m / 256 ^ s := Nat.div_pos (by omega) (Nat.pow_pos (by decide))
            omega
          rw [e3]
          refine bad _ _ ?_
          rw [Int.toNat_natCast]
          intro ⟨_, _, _, h⟩
          have h' : ((m : Nat) : Int) < ((256 ^ s : Nat) : Int) := by rw [Int.natCast_pow]; exact h
          exact h4 (Int.ofNat_lt.1 h')

/-! ### leget -/
theorem or_i64 (a b : Nat) (ha : a < 9223372036854775808) (hb : b < 9223372036854775808) : Go.bits .or .i64 (a : Int) (b : Int) = ((a ||| b : Nat) : Int) := by
  have hx : a ||| b < 2 ^ 63 := Nat.or_lt_two_pow (by omega) (by omega)
  have h1 : (BitVec.ofInt 64 (a : Int)).toNat = a := by
    rw [BitVec.ofInt_natCast, BitVec.toNat_ofNat]; exact Nat.mod_eq_of_lt (by omega)
  have h2 : (BitVec.ofInt 64 (b : Int)).toNat = b := by
    rw [BitVec.ofInt_natCast, BitVec.toNat_ofNat]; exact Nat.mod_eq_of_lt (by omega)
  show IntKind.i64.wrap ((BitVec.ofInt 64 (a : Int) ||| BitVec.ofInt 64 (b : Int)).toNat : Int) = _
  rw [BitVec.toNat_or, h1, h2]
  rw [IntKind.wrap_i64]
  omega
theorem or_low (n b : Nat) (hn : n < 281474976710656) (hb : b < 256) : Go.bits .or .i64 (wrap64 ((n : Int) * 256)) (wrap64 (b : Int)) = ((b + 256 * n : Nat) : Int) := by
  have e1 : wrap64 ((n : Int) * 256) = ((n * 256 : Nat) : Int) := by rw [w64 (by omega) (by omega)]; omega
  rw [e1, w64 (by omega) (by omega), or_i64 _ _ (by omega) (by omega)]
  have h := Nat.shiftLeft_add_eq_or_of_lt (show b < 2 ^ 8 by omega) n
  rw [Nat.shiftLeft_eq] at h
  have h' : n * 256 ||| b = n * 256 + b := h.symm
  rw [h']; omega
theorem bt_get (s : ByteArray) (i : Nat) : bt s (i : Int) = ((s.data.toList.getD i 0).toNat : Int) := by
  unfold bt
  rw [Int.toNat_natCast]
  split
  · rename_i h
    have h' : i < s.data.toList.length := by rw [dlen]; exact h
    rw [List.getD_eq_getElem?_getD, List.getElem?_eq_getElem h', Option.getD_some, Array.getElem_toList]
    rfl
  · rename_i h
    have h' : s.data.toList.length ≤ i := by rw [dlen]; omega
    rw [List.getD_eq_getElem?_getD, List.getElem?_eq_none h']
    rfl
/-- What Get answers. -/
def leGetS (s : ByteArray) : Int := if s.size ≤ 7 then (unB s.data.toList : Int) else 0
theorem le_Get_loop (s : ByteArray) (hs : s.size ≤ 7) : ∀ (i : Nat), i ≤ s.size → Ev (fun k => le_Get.l0 k s (unB (s.data.toList.drop i) : Int) ((i : Int) - 1)) (unB s.data.toList : Int) := by
  intro i
  induction i with
  | zero =>
    intro _
    refine Ev.from 1 fun k => ?_
    rw [le_Get.l0, if_neg (by omega), List.drop_zero]
  | succ i ih =>
    intro hi
    have hil : i < s.data.toList.length := by rw [dlen]; omega
    have e1 : ((i + 1 : Nat) : Int) - 1 = (i : Int) := by omega
    have e2 : wrap64 ((i : Int) - 1) = (i : Int) - 1 := w64 (by omega) (by omega)
    have hb := (s.data.toList[i]).toNat_lt
    have hlt := unB_lt (s.data.toList.drop (i + 1))
    rw [List.length_drop, dlen] at hlt
    have hp : 256 ^ (s.size - (i + 1)) ≤ 256 ^ 6 := Nat.pow_le_pow_right (by decide) (by omega)
    have e3 : bt s (i : Int) = ((s.data.toList[i]).toNat : Int) := by
      rw [bt_get, List.getD_eq_getElem?_getD, List.getElem?_eq_getElem hil]; rfl
    have e4 : unB (s.data.toList.drop i) = (s.data.toList[i]).toNat + 256 * unB (s.data.toList.drop (i + 1)) := by
      rw [List.drop_eq_getElem_cons hil, unB]
    refine Ev.step (fun k => ?_) (ih (by omega))
    rw [e1, le_Get.l0, if_pos (by omega), if_pos (by omega), if_pos (by omega), e2, e3, e4]
    rw [or_low _ _ (by omega) (by omega)]
theorem le_Get_ev (s : ByteArray) : Ev (fun k => le_Get.f k s) (leGetS s) := by
  unfold le_Get.f leGetS
  by_cases h : s.size ≤ 7
  · simp only [if_neg (show ¬ (s.size : Int) > 7 by omega), if_pos h]
    rw [w64 (by omega) (by omega)]
    have := le_Get_loop s h s.size (Nat.le_refl _)
    rw [List.drop_of_length_le (by rw [dlen]; omega)] at this
    exact this
  · simp only [if_pos (show (s.size : Int) > 7 by omega), if_neg h]; exact Ev.now _

/-! ### lein -/
theorem bex (s : ByteArray) (a b : Nat) : (s.extract a b).data.toList = (s.data.toList.take b).drop a := by
  rw [ByteArray.data_extract, Array.toList_extract, List.extract_eq_drop_take', List.drop_take]
theorem drop_nil_iff (l : List UInt8) : l.dropWhile (· == 0) = [] ↔ ∀ b ∈ l, b = 0 := by
  induction l with
  | nil => simp
  | cons a l ih =>
    by_cases h : a = 0
    · subst h
      rw [List.dropWhile_cons_of_pos (by decide), ih]
      simp
    · rw [List.dropWhile_cons_of_neg (by simpa using h)]
      simp [h]
theorem trim_nil_iff (l : List UInt8) : Lib.trimB l 0 = [] ↔ ∀ b ∈ l, b = 0 := by
  unfold Lib.trimB Lib.trimLeftB Lib.trimRightB
  rw [drop_nil_iff]
  constructor
  · intro h
    have h1 : (l.reverse.dropWhile (· == 0)) = [] := by
      cases hx : l.reverse.dropWhile (· == 0) with
      | nil => rfl
      | cons a r =>
        have ha : a = 0 := h a (by rw [hx]; simp)
        have h2 : ¬ ((a == 0) = true) := by
          have h3 := List.head?_dropWhile_not (p := fun b : UInt8 => b == 0) (l := l.reverse)
          rw [hx] at h3
          simpa using h3
        exact absurd (by simp [ha]) h2
    have h4 := (drop_nil_iff l.reverse).1 h1
    intro b hb
    exact h4 b (by simpa using hb)
  · intro h b hb
    have h1 : l.reverse.dropWhile (· == 0) = [] := (drop_nil_iff l.reverse).2 (fun b hb => h b (by simpa using hb))
    rw [h1] at hb
    simp at hb
/-- What Text answers: the text, the rest, the error. -/
def inText (s : ByteArray) (e : Option Int) (n : Int) : ByteArray × ByteArray × Option Int :=
  if e.isNone = true then (if n < 0 then (⟨#[]⟩, s, some 1) else if n > (s.size : Int) then (⟨#[]⟩, s, some 4) else (s.extract 0 n.toNat, s.extract n.toNat s.size, none)) else (⟨#[]⟩, s, some (e.getD 0))
theorem in_fail (s : ByteArray) (e : Option Int) (n : Int) : le_In_fail.f s e n = some (s, if e.isNone = true then some n else some (e.getD 0)) := by
  unfold le_In_fail.f
  split <;> rfl
theorem in_text (s : ByteArray) (e : Option Int) (n : Int) : le_In_Text.f s e n = some (inText s e n) := by
  unfold le_In_Text.f inText
  simp only [in_fail, Option.bind_some]
  cases e with
  | none =>
    simp only [Option.isNone_none, if_true, Option.isNone_some, Bool.false_eq_true, if_false]
    by_cases h1 : n < 0
    · rw [if_pos h1, if_pos h1]; rfl
    · rw [if_neg h1, if_neg h1]
      by_cases h2 : n > (s.size : Int)
      · rw [if_pos h2, if_pos h2]; rfl
      · rw [if_neg h2, if_neg h2, if_pos (by omega), if_pos (by omega)]
  | some v =>
    simp only [Option.isNone_some, Bool.false_eq_true, if_false]
    split
    · rfl
    · split <;> rfl
/-- What Num leaves of the error ahead of the text. -/
def inNumE (e : Option Int) (n : Int) : Option Int := if n < 1 ∨ n > 7 then (if e.isNone = true then some 1 else some (e.getD 0)) else e
/-- What Num answers. -/
def inNum (s : ByteArray) (e : Option Int) (n : Int) : Int × ByteArray × Option Int := (leGetS (inText s (inNumE e n) n).1, (inText s (inNumE e n) n).2)
theorem in_num (s : ByteArray) (e : Option Int) (n : Int) : Ev (fun k => le_In_Num.f k s e n) (inNum s e n) := by
  have bad : n < 1 ∨ n > 7 → Ev (fun k => le_In_Num.j0 k n true s e) (inNum s e n) := fun h => by
    refine Ev.step (fun k => by rw [le_In_Num.j0, if_pos rfl, in_fail, Option.bind_some]) ?_
    unfold inNum inNumE
    rw [if_pos h]
    simp only [in_text, Option.bind_some]
    exact Ev.bind (le_Get_ev _) (Ev.now _)
  unfold le_In_Num.f
  by_cases h1 : n < 1
  · simp only [if_pos h1]; exact bad (.inl h1)
  · simp only [if_neg h1]
    by_cases h2 : n > 7
    · rw [decide_eq_true h2]; exact bad (.inr h2)
    · rw [decide_eq_false h2]
      refine Ev.step (fun k => by rw [le_In_Num.j0, if_neg (by decide)]) ?_
      unfold inNum inNumE
      rw [if_neg (by omega)]
      simp only [in_text, Option.bind_some]
      exact Ev.bind (le_Get_ev _) (Ev.now _)
/-- What Noughts leaves. -/
def inNoughts (s : ByteArray) (e : Option Int) (n : Int) : ByteArray × Option Int :=
  ((inText s e n).2.1, if (inText s e n).1.data.toList.all (· == 0) = true then (inText s e n).2.2 else (if (inText s e n).2.2.isNone = true then some 4 else some ((inText s e n).2.2.getD 0)))
theorem in_text_size (s : ByteArray) (e : Option Int) (n : Int) : (inText s e n).1.size ≤ s.size := by
  unfold inText
  split
  · split
    · exact Nat.zero_le _
    · split
      · exact Nat.zero_le _
      · show (s.extract 0 n.toNat).size ≤ s.size
        rw [ByteArray.size_extract]; omega
  · exact Nat.zero_le _
theorem in_noughts (s : ByteArray) (e : Option Int) (n : Int) (hs : s.size ≤ 9223372036854775807) : le_In_Noughts.f s e n = some (inNoughts s e n) := by
  unfold le_In_Noughts.f inNoughts
  rw [in_text, Option.bind_some]
  have h1 := in_text_size s e n
  unfold strings_Trim.f
  rw [if_pos ⟨rfl, by omega⟩, Option.bind_some]
  have h2 : (ByteArray.toList ⟨(Lib.trimB (inText s e n).1.data.toList 0).toArray⟩) = Lib.trimB (inText s e n).1.data.toList 0 := by rw [dl]
  rw [h2]
  by_cases h : (inText s e n).1.data.toList.all (· == 0) = true
  · have h3 : Lib.trimB (inText s e n).1.data.toList 0 = [] := (trim_nil_iff _).2 (fun b hb => by have := List.all_eq_true.1 h b hb; simpa using this)
    rw [if_pos h3, if_pos h]
  · have h3 : ¬ Lib.trimB (inText s e n).1.data.toList 0 = [] := fun h4 => h (List.all_eq_true.2 (fun b hb => by simpa using (trim_nil_iff _).1 h4 b hb))
    rw [if_neg h3, if_neg h, in_fail]; rfl
/-- What End answers. -/
def inEnd (s : ByteArray) (e : Option Int) : Option Int := if e.isNone = true then (if s.data.toList = [] then none else some 10) else some (e.getD 0)
theorem in_end (s : ByteArray) (e : Option Int) : ∃ r, le_In_End.f s e = some (inEnd s e, r) := by
  unfold le_In_End.f inEnd
  rw [dl]
  split
  · split <;> exact ⟨_, rfl⟩
  · exact ⟨_, rfl⟩

/-! ### ref01 -/
theorem ref01_Get_loop (s : ByteArray) (hs : s.size ≤ 7) : ∀ (i : Nat), i ≤ s.size → Ev (fun k => posthorseref01_Get.l0 k s (unB (s.data.toList.drop i) : Int) ((i : Int) - 1)) (unB s.data.toList : Int) := by
  intro i
  induction i with
  | zero =>
    intro _
    refine Ev.from 1 fun k => ?_
    rw [posthorseref01_Get.l0, if_neg (by omega), List.drop_zero]
  | succ i ih =>
    intro hi
    have hil : i < s.data.toList.length := by rw [dlen]; omega
    have e1 : ((i + 1 : Nat) : Int) - 1 = (i : Int) := by omega
    have e2 : wrap64 ((i : Int) - 1) = (i : Int) - 1 := w64 (by omega) (by omega)
    have hb := (s.data.toList[i]).toNat_lt
    have hlt := unB_lt (s.data.toList.drop (i + 1))
    rw [List.length_drop, dlen] at hlt
    have hp : 256 ^ (s.size - (i + 1)) ≤ 256 ^ 6 := Nat.pow_le_pow_right (by decide) (by omega)
    have e3 : bt s (i : Int) = ((s.data.toList[i]).toNat : Int) := by
      rw [bt_get, List.getD_eq_getElem?_getD, List.getElem?_eq_getElem hil]; rfl
    have e4 : unB (s.data.toList.drop i) = (s.data.toList[i]).toNat + 256 * unB (s.data.toList.drop (i + 1)) := by
      rw [List.drop_eq_getElem_cons hil, unB]
    refine Ev.step (fun k => ?_) (ih (by omega))
    rw [e1, posthorseref01_Get.l0, if_pos (by omega), if_pos (by omega), if_pos (by omega), e2, e3, e4]
    rw [w64 (n := 256 * _) (by omega) (by omega), w64 (n := ((s.data.toList[i]).toNat : Int)) (by omega) (by omega), w64 (by omega) (by omega)]
    congr 1
    omega
theorem ref01_Get_ev (s : ByteArray) : Ev (fun k => posthorseref01_Get.f k s) (leGetS s) := by
  unfold posthorseref01_Get.f leGetS
  by_cases h : s.size ≤ 7
  · simp only [if_neg (show ¬ (s.size : Int) > 7 by omega), if_pos h]
    rw [w64 (by omega) (by omega)]
    have := ref01_Get_loop s h s.size (Nat.le_refl _)
    rw [List.drop_of_length_le (by rw [dlen]; omega)] at this
    exact this
  · simp only [if_pos (show (s.size : Int) > 7 by omega), if_neg h]; exact Ev.now _

/-! ### LeReads -/
/-- The document's state beside the code's. -/
def sameIn (s : ByteArray) (e : Option Int) (t : ByteArray) (d : Int) : Prop := s = t ∧ (e = none ∧ d = 0 ∨ ∃ n, e = some n ∧ n ≠ 0 ∧ d = n)
theorem same_text {s : ByteArray} {e : Option Int} {t : ByteArray} {d : Int} (h : sameIn s e t d) (n : Int) : Ev (fun k => posthorseref01_Take.f k t d n) ((inText s e n).1, (inText s e n).2.1, (inText s e n).2.2.getD 0) ∧ sameIn (inText s e n).2.1 (inText s e n).2.2 (inText s e n).2.1 ((inText s e n).2.2.getD 0) := by
  obtain ⟨rfl, h⟩ := h
  rcases h with ⟨rfl, rfl⟩ | ⟨v, rfl, hv, rfl⟩
  · unfold inText
    simp only [Option.isNone_none, if_true]
    unfold posthorseref01_Take.f
    simp only [if_true]
    by_cases h1 : n < 0
    · rw [if_pos h1, decide_eq_true h1]
      refine ⟨?_, rfl, .inr ⟨1, rfl, by decide, rfl⟩⟩
      refine Ev.from 3 fun k => ?_
      rw [posthorseref01_Take.j0, if_pos rfl, posthorseref01_Take.j1, if_neg (by decide), posthorseref01_Take.j2, if_neg (by decide), if_neg (by decide)]; rfl
    · rw [if_neg h1, decide_eq_false h1]
      by_cases h2 : n > (s.size : Int)
      · rw [if_pos h2]
        refine ⟨?_, rfl, .inr ⟨4, rfl, by decide, rfl⟩⟩
        refine Ev.from 3 fun k => ?_
        rw [posthorseref01_Take.j0, if_neg (by decide), posthorseref01_Take.j1, if_pos rfl, decide_eq_true h2, posthorseref01_Take.j2, if_pos rfl, if_neg (by decide)]; rfl
      · rw [if_neg h2]
        refine ⟨?_, rfl, .inl ⟨rfl, rfl⟩⟩
        refine Ev.from 3 fun k => ?_
        rw [posthorseref01_Take.j0, if_neg (by decide), posthorseref01_Take.j1, if_pos rfl, decide_eq_false h2, posthorseref01_Take.j2, if_neg (by decide), if_pos rfl, if_pos (by omega), if_pos (by omega)]; rfl
  · unfold inText
    simp only [Option.isNone_some, Bool.false_eq_true, if_false]
    refine ⟨?_, rfl, .inr ⟨_, rfl, hv, rfl⟩⟩
    unfold posthorseref01_Take.f
    simp only [if_neg hv]
    refine Ev.from 3 fun k => ?_
    rw [posthorseref01_Take.j0, if_neg (by decide), posthorseref01_Take.j1, if_neg hv, posthorseref01_Take.j2, if_neg (by decide), if_neg hv]; rfl
theorem same_num {s : ByteArray} {e : Option Int} {t : ByteArray} {d : Int} (h : sameIn s e t d) (n : Int) : Ev (fun k => posthorseref01_Num.f k t d n) ((inNum s e n).1, (inNum s e n).2.1, (inNum s e n).2.2.getD 0) ∧ sameIn (inNum s e n).2.1 (inNum s e n).2.2 (inNum s e n).2.1 ((inNum s e n).2.2.getD 0) := by
  have base : ∀ (e' : Option Int) (d' : Int), sameIn s e' s d' → Ev (fun k => (posthorseref01_Take.f k s d' n).bind fun bt129 => ((posthorseref01_Get.f k bt129.1).bind fun t132 => (some (t132, bt129.2.1, bt129.2.2)))) (leGetS (inText s e' n).1, (inText s e' n).2.1, (inText s e' n).2.2.getD 0) := fun e' d' h' =>
    Ev.bind (same_text h' n).1 (Ev.bind (ref01_Get_ev _) (Ev.now _))
  obtain ⟨rfl, h⟩ := h
  unfold inNum
  rcases h with ⟨rfl, rfl⟩ | ⟨v, rfl, hv, rfl⟩
  · by_cases hr : n < 1 ∨ n > 7
    · have e1 : inNumE none n = some 1 := by unfold inNumE; rw [if_pos hr]; rfl
      rw [e1]
      have h1 : sameIn s (some 1) s 1 := ⟨rfl, .inr ⟨1, rfl, by decide, rfl⟩⟩
      refine ⟨?_, (same_text h1 n).2⟩
      unfold posthorseref01_Num.f
      simp only [if_true]
      by_cases h2 : n < 1
      · simp only [if_pos h2]
        exact Ev.step (fun k => by rw [posthorseref01_Num.j0, if_pos rfl]) (base _ _ h1)
      · simp only [if_neg h2]
        rw [decide_eq_true (show n > 7 by omega)]
        exact Ev.step (fun k => by rw [posthorseref01_Num.j0, if_pos rfl]) (base _ _ h1)
    · have e1 : inNumE none n = none := by unfold inNumE; rw [if_neg hr]
      rw [e1]
      have h1 : sameIn s none s 0 := ⟨rfl, .inl ⟨rfl, rfl⟩⟩
      refine ⟨?_, (same_text h1 n).2⟩
      unfold posthorseref01_Num.f
      simp only [if_true, if_neg (show ¬ n < 1 by omega)]
      rw [decide_eq_false (show ¬ n > 7 by omega)]
      exact Ev.step (fun k => by rw [posthorseref01_Num.j0, if_neg (by decide)]) (base _ _ h1)
  · have e1 : ∀ v, inNumE (some v) n = some v := fun v => by
      unfold inNumE
      split <;> rfl
    rw [e1]
    have h1 : sameIn s (some d) s d := ⟨rfl, .inr ⟨_, rfl, hv, rfl⟩⟩
    refine ⟨?_, (same_text h1 n).2⟩
    unfold posthorseref01_Num.f
    simp only [if_neg hv]
    exact Ev.step (fun k => by rw [posthorseref01_Num.j0, if_neg (by decide)]) (base _ _ h1)
theorem ref_noughts_loop (x t : ByteArray) (hx : x.size ≤ 9223372036854775806) : ∀ (m i : Nat) (d : Int), i + m = x.size → Ev (fun k => posthorseref01_Noughts.l0 k x (i : Int) t d) (t, if (x.data.toList.drop i).all (· == 0) = true then d else if d = 0 then 4 else d) := by
  intro m
  induction m with
  | zero =>
    intro i d hi
    refine Ev.from 1 fun k => ?_
    rw [posthorseref01_Noughts.l0, if_neg (by omega), List.drop_of_length_le (by rw [dlen]; omega)]; rfl
  | succ m ih =>
    intro i d hi
    have hil : i < x.data.toList.length := by rw [dlen]; omega
    have e1 : wrap64 ((i : Int) + 1) = ((i + 1 : Nat) : Int) := by rw [w64 (by omega) (by omega)]; omega
    have hbt := bt_get x i
    rw [List.getD_eq_getElem?_getD, List.getElem?_eq_getElem hil, Option.getD_some] at hbt
    rw [List.drop_eq_getElem_cons hil, List.all_cons]
    by_cases h0 : x.data.toList[i] = 0
    · have hz : bt x (i : Int) = 0 := by rw [hbt, h0]; rfl
      have ht : (x.data.toList[i] == 0) = true := by simpa using h0
      rw [ht, Bool.true_and]
      exact Ev.step (fun k => by rw [posthorseref01_Noughts.l0, if_pos (by omega), if_pos (by omega), if_pos hz, e1]) (ih (i + 1) d (by omega))
    · have hz : ¬ bt x (i : Int) = 0 := by
        rw [hbt]
        intro h
        refine h0 (UInt8.toNat_inj.1 ?_)
        have : (x.data.toList[i]).toNat = 0 := by omega
        rw [this]; rfl
      have ht : (x.data.toList[i] == 0) = false := by simpa using h0
      rw [ht, Bool.false_and, if_neg (by decide)]
      by_cases hd : d = 0
      · have := ih (i + 1) 4 (by omega)
        have e4 : (if ((x.data.toList.drop (i + 1)).all (· == 0)) = true then (4 : Int) else if (4 : Int) = 0 then 4 else 4) = 4 := by split <;> rfl
        rw [e4] at this
        rw [if_pos hd]
        exact Ev.step (fun k => by rw [posthorseref01_Noughts.l0, if_pos (by omega), if_pos (by omega), if_neg hz, if_pos hd, e1]) this
      · have := ih (i + 1) d (by omega)
        have e4 : (if ((x.data.toList.drop (i + 1)).all (· == 0)) = true then d else if d = 0 then 4 else d) = d := by rw [if_neg hd]; split <;> rfl
        rw [e4] at this
        rw [if_neg hd]
        exact Ev.step (fun k => by rw [posthorseref01_Noughts.l0, if_pos (by omega), if_pos (by omega), if_neg hz, if_neg hd, e1]) this
theorem same_noughts {s : ByteArray} {e : Option Int} {t : ByteArray} {d : Int} (h : sameIn s e t d) (hs : s.size ≤ 9223372036854775806) (n : Int) : Ev (fun k => posthorseref01_Noughts.f k t d n) ((inNoughts s e n).1, (inNoughts s e n).2.getD 0) ∧ sameIn (inNoughts s e n).1 (inNoughts s e n).2 (inNoughts s e n).1 ((inNoughts s e n).2.getD 0) := by
  obtain ⟨h1, h2⟩ := same_text h n
  have hsz := in_text_size s e n
  have hl := ref_noughts_loop (inText s e n).1 (inText s e n).2.1 (by omega) (inText s e n).1.size 0 ((inText s e n).2.2.getD 0) (by omega)
  rw [List.drop_zero] at hl
  obtain ⟨_, h3⟩ := h2
  unfold inNoughts posthorseref01_Noughts.f
  by_cases ha : (inText s e n).1.data.toList.all (· == 0) = true
  · rw [if_pos ha] at hl
    simp only [if_pos ha]
    exact ⟨Ev.bind h1 hl, rfl, h3⟩
  · rw [if_neg ha] at hl
    simp only [if_neg ha]
    rcases h3 with ⟨e1, e2⟩ | ⟨v, e1, hv, e2⟩
    · rw [e1] at hl ⊢
      exact ⟨Ev.bind h1 (by rw [e1]; exact hl), rfl, .inr ⟨4, rfl, by decide, rfl⟩⟩
    · rw [e1] at hl ⊢
      simp only [Option.getD_some, if_neg hv] at hl
      exact ⟨Ev.bind h1 (by rw [e1]; exact hl), rfl, .inr ⟨_, rfl, hv, rfl⟩⟩
theorem in_text_rest (s : ByteArray) (e : Option Int) (n : Int) : (inText s e n).2.1.size ≤ s.size := by
  unfold inText
  split
  · split
    · exact Nat.le_refl _
    · split
      · exact Nat.le_refl _
      · show (s.extract n.toNat s.size).size ≤ s.size
        rw [ByteArray.size_extract]; omega
  · exact Nat.le_refl _
theorem reads_loop (l : List S47) : ∀ (m i : Nat) (s : ByteArray) (e : Option Int) (t : ByteArray) (d : Int), i + m = min 20 l.length → s.size ≤ 500 → sameIn s e t d → Ev (fun k => posthorselaw01_LeReads.l0 k l s e t d (i : Int)) true := by
  intro m
  induction m with
  | zero =>
    intro i s e t d hi hs h
    refine Ev.step (fun k => by rw [posthorselaw01_LeReads.l0, if_neg (by omega)]) ?_
    obtain ⟨r, hr⟩ := in_end s e
    obtain ⟨rfl, h⟩ := h
    simp only [hr, Option.bind_some]
    refine Ev.bind (a := (inEnd s e).getD 0) (Ev.now _) ?_
    unfold posthorseref01_End.f inEnd
    rw [dl]
    rcases h with ⟨rfl, rfl⟩ | ⟨v, rfl, hv, rfl⟩
    · simp only [Option.isNone_none, if_true]
      by_cases hn : s.data.toList = []
      · simp only [if_pos hn]; exact Ev.now _
      · simp only [if_neg hn]; exact Ev.now _
    · simp only [if_neg hv, Option.isNone_some, Bool.false_eq_true, if_false, Option.getD_some, Option.bind_some, beq_self_eq_true]
      exact Ev.now _
  | succ m ih =>
    intro i s e t d hi hs h
    have e1 : ((i : Int) + 1) = ((i + 1 : Nat) : Int) := by omega
    refine Ev.step (fun k => by rw [posthorselaw01_LeReads.l0, if_pos (by omega), e1]) ?_
    generalize rd_T47 l (i : Int) = x
    by_cases h0 : readSel x.f1 = 0
    · simp only [if_pos h0]
      obtain ⟨a1, a2⟩ := same_num h x.f2
      refine Ev.bind (in_num s e x.f2) (Ev.bind a1 ?_)
      simp only [if_true]
      refine ih (i + 1) _ _ _ _ (by omega) ?_ a2
      exact Nat.le_trans (in_text_rest s _ _) hs
    · simp only [if_neg h0]
      by_cases h1 : readSel x.f1 = 1
      · simp only [if_pos h1, in_text, Option.bind_some]
        obtain ⟨a1, a2⟩ := same_text h x.f2
        refine Ev.bind a1 ?_
        simp only [if_true]
        exact ih (i + 1) _ _ _ _ (by omega) (Nat.le_trans (in_text_rest s _ _) hs) a2
      · simp only [if_neg h1]
        obtain ⟨a1, a2⟩ := same_noughts h (by omega) x.f2
        simp only [in_noughts s e x.f2 (by omega), Option.bind_some]
        refine Ev.bind a1 ?_
        exact ih (i + 1) _ _ _ _ (by omega) (Nat.le_trans (in_text_rest s _ _) hs) a2
theorem LeReads : LeReads.Pure := by
  intro s l _ _
  refine Ev.rounds (g := fun k => posthorselaw01_LeReads.f k s l) ?_
  unfold posthorselaw01_LeReads.f
  by_cases h : (s.size : Int) > 500
  · simp only [if_pos h]; exact Ev.now _
  · simp only [if_neg h]
    exact reads_loop l (min 20 l.length) 0 s none s 0 (by omega) (by omega) ⟨rfl, .inl ⟨rfl, rfl⟩⟩

end Go.Proofs.YtdlmgjpnlgdpkaaDoor.Pure
