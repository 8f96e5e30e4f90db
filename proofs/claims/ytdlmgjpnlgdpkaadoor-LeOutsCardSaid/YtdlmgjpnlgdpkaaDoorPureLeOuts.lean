/- LeOuts of layer 1: numbers and texts put one behind the other, and read again; for every input, no condition. -/
import Derived.Test.YtdlmgjpnlgdpkaaDoorVLeOutsx11
import Derived.OpenShut
import Derived.Lib.IndexEntry
namespace Go.Proofs.YtdlmgjpnlgdpkaaDoor.Pure
open Go Go.RowKit Go.Proofs.YtdlmgjpnlgdpkaaDoor.VLeOuts Go.Proofs.YtdlmgjpnlgdpkaaDoorW.PrintWords Go.Proofs.YtdlmgjpnlgdpkaaDoorW.PrintLast
set_option linter.unusedSimpArgs false
set_option linter.unusedVariables false

def LeOuts.Pure : Prop := ∀ (l0 : List (S47)), (l0.length * 40 ≤ 140737488351232 ∧ l0.length ≤ maxLen ∧ ∀ l0y ∈ l0, (l0y.f0.size ≤ 140737488351232 ∧ (Lit.int .i64 l0y.f1).wf = true ∧ (Lit.int .i64 l0y.f2).wf = true ∧ True)) → ∃ k, posthorselaw01_LeOuts.f k l0 = some true
/-! ### base -/
theorem dl (s : ByteArray) : s.toList = s.data.toList := Lib.toList_data s
theorem deq {a b : ByteArray} : a = b ↔ a.data.toList = b.data.toList := ⟨fun h => by rw [h], fun h => Go.WideShapes.bytes_inj h⟩
theorem dapp (a b : ByteArray) : (a ++ b).data.toList = a.data.toList ++ b.data.toList := by simp
theorem dlen (a : ByteArray) : a.data.toList.length = a.size := by rw [Array.length_toList]; rfl
theorem w64 {n : Int} (h0 : -9223372036854775808 ≤ n) (h1 : n ≤ 9223372036854775807) : wrap64 n = n := by unfold wrap64; omega
theorem i64b {n : Int} (h : (Lit.int .i64 n).wf = true) : -9223372036854775808 ≤ n ∧ n ≤ 9223372036854775807 := bounds_i64 h
theorem u8w (n : Int) : IntKind.u8.wrap n = n % 256 := IntKind.wrap_u8 n
theorem Ev.all {α : Type} {g : Nat → Option α} {r : α} (h : ∀ k, g k = some r) : Ev g r := ⟨0, fun k _ => h k⟩
theorem Ev.bindS {α β : Type} {g : Nat → Option α} {f : Nat → α → Option β} {a : α} {r : β} (h : Ev g a) (k : Ev (fun n => f n a) r) : Ev (fun n => (g n).bind (f n)) r := Ev.bind h k
theorem Ev.from {α : Type} {g : Nat → Option α} {r : α} (j : Nat) (h : ∀ k, g (k + j) = some r) : Ev g r := ⟨j, fun k hk => by have := h (k - j); rwa [Nat.sub_add_cancel hk] at this⟩
theorem Ev.to {α : Type} {g : Nat → Option α} {r : α} (h : Ev g r) : ∃ k, g k = some r := h.rounds
theorem Ev.at_ {α : Type} {g : Nat → Option α} {r : α} (hg : ∀ k, LeO (g k) (g (k + 1))) {j : Nat} (h : g j = some r) : Ev g r := Ev.of hg h

/-! ### le -/
/-- The bytes of a number, the lowest first. -/
def leB : Nat → Nat → List UInt8
  | 0, _ => []
  | s + 1, n => UInt8.ofNat (n % 256) :: leB s (n / 256)
theorem leB_len : ∀ s n, (leB s n).length = s
  | 0, _ => rfl
  | s + 1, n => by rw [leB, List.length_cons, leB_len s]
/-- .. and back. -/
def unB : List UInt8 → Nat
  | [] => 0
  | b :: r => b.toNat + 256 * unB r
theorem unB_leB : ∀ s n, unB (leB s n) = n % 256 ^ s
  | 0, n => by simp [leB, unB, Nat.mod_one]
  | s + 1, n => by
    rw [leB, unB, unB_leB s]
    have h1 : (UInt8.ofNat (n % 256)).toNat = n % 256 := by simp
    rw [h1, Nat.pow_succ', Nat.mod_mul]
theorem unB_lt : ∀ l : List UInt8, unB l < 256 ^ l.length
  | [] => by simp [unB]
  | b :: r => by
    have := unB_lt r
    have := b.toNat_lt
    rw [unB, List.length_cons, Nat.pow_succ]
    omega
theorem leB_unB : ∀ l : List UInt8, leB l.length (unB l) = l
  | [] => rfl
  | b :: r => by
    have hb := b.toNat_lt
    rw [unB, List.length_cons, leB]
    have h1 : (b.toNat + 256 * unB r) % 256 = b.toNat := by omega
    have h2 : (b.toNat + 256 * unB r) / 256 = unB r := by omega
    rw [h1, h2, leB_unB r]; simp
theorem leB_get : ∀ (s n j : Nat), j < s → (leB s n)[j]? = some (UInt8.ofNat (n / 256 ^ j % 256))
  | s + 1, n, 0, _ => by simp [leB]
  | s + 1, n, j + 1, h => by
    rw [leB, List.getElem?_cons_succ, leB_get s _ j (by omega), Nat.div_div_eq_div_mul, Nat.pow_succ']
/-- What Put answers. -/
def lePutS (n size : Int) : ByteArray := if 1 ≤ size ∧ size ≤ 7 ∧ 0 ≤ n ∧ n < 256 ^ size.toNat then ⟨(leB size.toNat n.toNat).toArray⟩ else ⟨#[]⟩
/-- The row that Put fills, behind i rounds. -/
def leRow (n : Int) (size i : Nat) : List Int := (List.range size).map fun j => if j < i then n / 256 ^ j % 256 else 0
theorem leRow_len (n : Int) (size i : Nat) : (leRow n size i).length = size := by simp [leRow]
theorem leRow_set (n : Int) (size i : Nat) (_ : i < size) : (leRow n size i).set i (n / 256 ^ i % 256) = leRow n size (i + 1) := by
  apply List.ext_getElem
  · simp [leRow]
  · intro j h1 h2
    simp only [leRow, List.length_map, List.length_range, List.length_set] at h1 h2
    rw [List.getElem_set]
    simp only [leRow, List.getElem_map, List.getElem_range]
    by_cases e : i = j
    · subst e; simp
    · rw [if_neg e]
      by_cases hj : j < i
      · rw [if_pos hj, if_pos (by omega)]
      · rw [if_neg hj, if_neg (by omega)]
theorem divcast (m s : Nat) : (m : Int) / 256 ^ s = ((m / 256 ^ s : Nat) : Int) := by
  rw [Int.natCast_ediv]; congr 1
theorem leRow_full (n : Nat) (size : Nat) : Go.strOfNums (leRow n size size) = ⟨(leB size n).toArray⟩ := by
  unfold Go.strOfNums
  congr 2
  apply List.ext_getElem?
  intro j
  by_cases hj : j < size
  · rw [leB_get _ _ _ hj, leRow, List.getElem?_map, List.getElem?_map, List.getElem?_range hj]
    simp only [Option.map_some, if_pos hj]
    have : ((n : Int) / 256 ^ j % 256).toNat = n / 256 ^ j % 256 := by
      have h1 : ((n : Int) / 256 ^ j % 256) = ((n / 256 ^ j % 256 : Nat) : Int) := by rw [divcast]; rfl
      rw [h1, Int.toNat_natCast]
    rw [this]
  · rw [List.getElem?_eq_none (by simp [leRow]; omega), List.getElem?_eq_none (by rw [leB_len]; omega)]
theorem shr_pow (n : Int) (i : Nat) (hi : i ≤ 7) : shr .i64 n (wrap64 (8 * (i : Int))) = n / 256 ^ i := by
  rw [w64 (by omega) (by omega)]
  unfold shr
  have h1 : min (8 * (i : Int)).toNat (IntKind.bits .i64) = 8 * i := by
    have h2 : (8 * (i : Int)).toNat = 8 * i := by omega
    rw [h2]; show min (8 * i) 64 = 8 * i; omega
  rw [h1]
  have h3 : (2 : Int) ^ (8 * i) = 256 ^ i := by
    have h := congrArg (fun x : Nat => (x : Int)) (Nat.pow_mul 2 8 i)
    simp only [Int.natCast_pow] at h
    exact h
  rw [h3]
theorem le_Put_loop (n : Int) (size : Nat) (hs : size ≤ 7) (h0 : 0 ≤ n) : ∀ (d i : Nat), i + d = size → Ev (fun k => le_Put.l0 k n (leRow n size i) (size : Int) (i : Int)) (Go.strOfNums (leRow n size size)) := by
  intro d
  induction d with
  | zero =>
    intro i hi
    obtain rfl : i = size := by omega
    refine Ev.from 1 fun k => ?_
    rw [le_Put.l0, if_neg (by omega)]
  | succ d ih =>
    intro i hi
    refine Ev.step (f := fun k => le_Put.l0 k n (leRow n size (i + 1)) (size : Int) ((i + 1 : Nat) : Int)) (fun k => ?_) (ih (i + 1) (by omega))
    have e1 : wrap64 (8 * (i : Int)) = 8 * (i : Int) := w64 (by omega) (by omega)
    have e2 : wrap64 ((i : Int) + 1) = ((i + 1 : Nat) : Int) := by rw [w64 (by omega) (by omega)]; omega
    rw [le_Put.l0, if_pos (by omega), if_pos (by rw [e1]; omega), if_pos (by omega), if_pos (by rw [leRow_len]; omega), e2, shr_pow n i (by omega), Int.toNat_natCast, leRow_set n size i (by omega)]
theorem le_Put_ev (n size : Int) (hn : (Lit.int .i64 n).wf = true) : Ev (fun k => le_Put.f k n size) (lePutS n size) := by
  have bn := i64b hn
  have bad : ∀ (n size : Int), ¬ (1 ≤ size ∧ size ≤ 7 ∧ 0 ≤ n ∧ n < 256 ^ size.toNat) → Ev (fun k => le_Put.j0 k n size true) (lePutS n size) := by
    intro n size h
    refine Ev.from 1 fun k => ?_
    rw [le_Put.j0, if_pos rfl, lePutS, if_neg h]
  unfold le_Put.f
  by_cases h1 : size < 1
  · simp only [if_pos h1]; exact bad n size (by omega)
  · by_cases h2 : size > 7
    · simp only [if_neg h1, if_pos h2]; exact bad n size (by omega)
    · by_cases h3 : n < 0
      · simp only [if_neg h1, if_neg h2, if_pos h3]; exact bad n size (by omega)
      · obtain ⟨s, rfl⟩ := Int.eq_ofNat_of_zero_le (show 0 ≤ size by omega)
        obtain ⟨m, rfl⟩ := Int.eq_ofNat_of_zero_le (show 0 ≤ n by omega)
        have e1 : wrap64 (8 * (s : Int)) = 8 * (s : Int) := w64 (by omega) (by omega)
        simp only [if_neg h1, if_neg h2, if_neg h3, if_pos (show 0 ≤ wrap64 (8 * (s : Int)) by rw [e1]; omega)]
        rw [shr_pow _ s (by omega)]
        by_cases h4 : m < 256 ^ s
        · have e3 : ((m : Int) / 256 ^ s != 0) = false := by
            rw [divcast, Nat.div_eq_of_lt h4]; rfl
          rw [e3]
          refine Ev.step (f := fun k => le_Put.l0 k (m : Int) (leRow m s 0) (s : Int) ((0 : Nat) : Int)) (fun k => ?_) ?_
          · rw [le_Put.j0, if_neg (by decide), if_pos (by omega), if_pos (by omega)]
            have e4 : (List.replicate (s : Int).toNat 0 : List Int) = leRow m s 0 := by
              rw [Int.toNat_natCast]
              apply List.ext_getElem
              · simp [leRow]
              · intro j h1 h2; simp [leRow]
            simp only [Option.bind_some, e4, leRow_len]
            rfl
          · have := le_Put_loop (m : Int) s (by omega) (by omega) s 0 (by omega)
            rw [leRow_full] at this
            have e5 : lePutS (m : Int) (s : Int) = ⟨(leB s m).toArray⟩ := by
              unfold lePutS
              rw [if_pos ⟨by omega, by omega, by omega, by rw [Int.toNat_natCast]; have h' := Int.ofNat_lt.2 h4; rw [Int.natCast_pow] at h'; exact h'⟩, Int.toNat_natCast, Int.toNat_natCast]
            rw [e5]; exact this
        · have e3 : ((m : Int) / 256 ^ s != 0) = true := by
            rw [divcast, bne_iff_ne]
            have : 0 < m / 256 ^ s := Nat.div_pos (by omega) (Nat.pow_pos (by decide))
            omega
          rw [e3]
          refine bad _ _ ?_
          rw [Int.toNat_natCast]
          intro ⟨_, _, _, h⟩
          have h' : ((m : Nat) : Int) < ((256 ^ s : Nat) : Int) := by rw [Int.natCast_pow]; exact h
          exact h4 (Int.ofNat_lt.1 h')

/-! ### bt -/
theorem bt_at_nat (s : ByteArray) (i : Nat) (h : i < s.data.toList.length) : bt s (i : Int) = ((s.data.toList[i]).toNat : Int) := by
  have h' : i < s.size := by rw [← dlen]; exact h
  unfold bt
  rw [Int.toNat_natCast, dif_pos h', Array.getElem_toList]; rfl

/-- The head's bytes. -/
def headB (kind : Nat) : List UInt8 := [80, 72, UInt8.ofNat (kind % 256), 0]
theorem wf_of {n : Int} (h0 : -9223372036854775808 ≤ n) (h1 : n ≤ 9223372036854775807) : (Lit.int .i64 n).wf = true := by
  have := wrap64_wf n
  rwa [w64 h0 h1] at this
/-- What is summed. -/
def bodyL (kind : Nat) (body : List UInt8) : List UInt8 := headB kind ++ body ++ List.replicate (504 - body.length) 0
theorem bodyL_len (kind : Nat) (body : List UInt8) (h : body.length ≤ 504) : (bodyL kind body).length = 508 := by
  simp [bodyL, headB]; omega
/-! ### super09 -/
/-- May there be such a layout? -/
def rightL (s j : Int) : Bool := decide (8 ≤ j ∧ j ≤ 512 ∧ s ≤ 2048 ∧ 7 + j ≤ s)
/-- A layout's bytes. -/
def layB (s j : Int) : List UInt8 := leB 2 s.toNat ++ leB 2 j.toNat
theorem right_range {s j : Int} (h : rightL s j = true) : 8 ≤ j ∧ j ≤ 512 ∧ s ≤ 2048 ∧ 7 + j ≤ s := by simpa [rightL] using h
theorem lay_put (s j : Int) (h : rightL s j = true) : lePutS s 2 ++ lePutS j 2 = ⟨(layB s j).toArray⟩ := by
  obtain ⟨h1, h2, h3, h4⟩ := right_range h
  unfold lePutS layB
  rw [if_pos ⟨by omega, by omega, by omega, by show s < 256 ^ 2; omega⟩, if_pos ⟨by omega, by omega, by omega, by show j < 256 ^ 2; omega⟩]
  rw [deq, dapp]; rfl
theorem lay_size (s j : Int) : (⟨(layB s j).toArray⟩ : ByteArray).size = 4 := by
  rw [← dlen]
  show (layB s j).length = 4
  unfold layB; rw [List.length_append, leB_len, leB_len]
theorem put_size (n : Int) : (lePutS n 2).size ≤ 2 := by
  unfold lePutS
  split
  · rw [← dlen]; simp [leB_len]
  · rw [← dlen]; simp
theorem ext_list (s : ByteArray) (a b : Nat) : (s.extract a b).data.toList = (s.data.toList.take b).drop a := by
  rw [ByteArray.data_extract, Array.toList_extract, List.extract_eq_drop_take', List.drop_take]
/-! ### leget -/
theorem or_i64 (a b : Nat) (ha : a < 9223372036854775808) (hb : b < 9223372036854775808) : Go.bits .or .i64 (a : Int) (b : Int) = ((a ||| b : Nat) : Int) := by
  have hx : a ||| b < 2 ^ 63 := Nat.or_lt_two_pow (by omega) (by omega)
  have h1 : (BitVec.ofInt 64 (a : Int)).toNat = a := by
    rw [BitVec.ofInt_natCast, BitVec.toNat_ofNat]; exact Nat.mod_eq_of_lt (by omega)
  have h2 : (BitVec.ofInt 64 (b : Int)).toNat = b := by
    rw [BitVec.ofInt_natCast, BitVec.toNat_ofNat]; exact Nat.mod_eq_of_lt (by omega)
  show IntKind.i64.wrap ((BitVec.ofInt 64 (a : Int) ||| BitVec.ofInt 64 (b : Int)).toNat : Int) = _
  rw [BitVec.toNat_or, h1, h2]
  rw [IntKind.wrap_i64]
  omega
theorem or_low (n b : Nat) (hn : n < 281474976710656) (hb : b < 256) : Go.bits .or .i64 (wrap64 ((n : Int) * 256)) (wrap64 (b : Int)) = ((b + 256 * n : Nat) : Int) := by
  have e1 : wrap64 ((n : Int) * 256) = ((n * 256 : Nat) : Int) := by rw [w64 (by omega) (by omega)]; omega
  rw [e1, w64 (by omega) (by omega), or_i64 _ _ (by omega) (by omega)]
  have h := Nat.shiftLeft_add_eq_or_of_lt (show b < 2 ^ 8 by omega) n
  rw [Nat.shiftLeft_eq] at h
  have h' : n * 256 ||| b = n * 256 + b := h.symm
  rw [h']; omega
theorem bt_get (s : ByteArray) (i : Nat) : bt s (i : Int) = ((s.data.toList.getD i 0).toNat : Int) := by
  unfold bt
  rw [Int.toNat_natCast]
  split
  · rename_i h
    have h' : i < s.data.toList.length := by rw [dlen]; exact h
    rw [List.getD_eq_getElem?_getD, List.getElem?_eq_getElem h', Option.getD_some, Array.getElem_toList]
    rfl
  · rename_i h
    have h' : s.data.toList.length ≤ i := by rw [dlen]; omega
    rw [List.getD_eq_getElem?_getD, List.getElem?_eq_none h']
    rfl
/-- What Get answers. -/
def leGetS (s : ByteArray) : Int := if s.size ≤ 7 then (unB s.data.toList : Int) else 0
theorem le_Get_loop (s : ByteArray) (hs : s.size ≤ 7) : ∀ (i : Nat), i ≤ s.size → Ev (fun k => le_Get.l0 k s (unB (s.data.toList.drop i) : Int) ((i : Int) - 1)) (unB s.data.toList : Int) := by
  intro i
  induction i with
  | zero =>
    intro _
    refine Ev.from 1 fun k => ?_
    rw [le_Get.l0, if_neg (by omega), List.drop_zero]
  | succ i ih =>
    intro hi
    have hil : i < s.data.toList.length := by rw [dlen]; omega
    have e1 : ((i + 1 : Nat) : Int) - 1 = (i : Int) := by omega
    have e2 : wrap64 ((i : Int) - 1) = (i : Int) - 1 := w64 (by omega) (by omega)
    have hb := (s.data.toList[i]).toNat_lt
    have hlt := unB_lt (s.data.toList.drop (i + 1))
    rw [List.length_drop, dlen] at hlt
    have hp : 256 ^ (s.size - (i + 1)) ≤ 256 ^ 6 := Nat.pow_le_pow_right (by decide) (by omega)
    have e3 : bt s (i : Int) = ((s.data.toList[i]).toNat : Int) := by
      rw [bt_get, List.getD_eq_getElem?_getD, List.getElem?_eq_getElem hil]; rfl
    have e4 : unB (s.data.toList.drop i) = (s.data.toList[i]).toNat + 256 * unB (s.data.toList.drop (i + 1)) := by
      rw [List.drop_eq_getElem_cons hil, unB]
    refine Ev.step (fun k => ?_) (ih (by omega))
    rw [e1, le_Get.l0, if_pos (by omega), if_pos (by omega), if_pos (by omega), e2, e3, e4]
    rw [or_low _ _ (by omega) (by omega)]
theorem le_Get_ev (s : ByteArray) : Ev (fun k => le_Get.f k s) (leGetS s) := by
  unfold le_Get.f leGetS
  by_cases h : s.size ≤ 7
  · simp only [if_neg (show ¬ (s.size : Int) > 7 by omega), if_pos h]
    rw [w64 (by omega) (by omega)]
    have := le_Get_loop s h s.size (Nat.le_refl _)
    rw [List.drop_of_length_le (by rw [dlen]; omega)] at this
    exact this
  · simp only [if_pos (show (s.size : Int) > 7 by omega), if_neg h]; exact Ev.now _

/-! ### lein -/
theorem bex (s : ByteArray) (a b : Nat) : (s.extract a b).data.toList = (s.data.toList.take b).drop a := by
  rw [ByteArray.data_extract, Array.toList_extract, List.extract_eq_drop_take', List.drop_take]
theorem drop_nil_iff (l : List UInt8) : l.dropWhile (· == 0) = [] ↔ ∀ b ∈ l, b = 0 := by
  induction l with
  | nil => simp
  | cons a l ih =>
    by_cases h : a = 0
    · subst h
      rw [List.dropWhile_cons_of_pos (by decide), ih]
      simp
    · rw [List.dropWhile_cons_of_neg (by simpa using h)]
      simp [h]
/-- What Text answers: the text, the rest, the error. -/
def inText (s : ByteArray) (e : Option Int) (n : Int) : ByteArray × ByteArray × Option Int :=
  if e.isNone = true then (if n < 0 then (⟨#[]⟩, s, some 1) else if n > (s.size : Int) then (⟨#[]⟩, s, some 4) else (s.extract 0 n.toNat, s.extract n.toNat s.size, none)) else (⟨#[]⟩, s, some (e.getD 0))
theorem in_fail (s : ByteArray) (e : Option Int) (n : Int) : le_In_fail.f s e n = some (s, if e.isNone = true then some n else some (e.getD 0)) := by
  unfold le_In_fail.f
  split <;> rfl
theorem in_text (s : ByteArray) (e : Option Int) (n : Int) : le_In_Text.f s e n = some (inText s e n) := by
  unfold le_In_Text.f inText
  simp only [in_fail, Option.bind_some]
  cases e with
  | none =>
    simp only [Option.isNone_none, if_true, Option.isNone_some, Bool.false_eq_true, if_false]
    by_cases h1 : n < 0
    · rw [if_pos h1, if_pos h1]; rfl
    · rw [if_neg h1, if_neg h1]
      by_cases h2 : n > (s.size : Int)
      · rw [if_pos h2, if_pos h2]; rfl
      · rw [if_neg h2, if_neg h2, if_pos (by omega), if_pos (by omega)]
  | some v =>
    simp only [Option.isNone_some, Bool.false_eq_true, if_false]
    split
    · rfl
    · split <;> rfl
/-- What Num leaves of the error ahead of the text. -/
def inNumE (e : Option Int) (n : Int) : Option Int := if n < 1 ∨ n > 7 then (if e.isNone = true then some 1 else some (e.getD 0)) else e
/-- What Num answers. -/
def inNum (s : ByteArray) (e : Option Int) (n : Int) : Int × ByteArray × Option Int := (leGetS (inText s (inNumE e n) n).1, (inText s (inNumE e n) n).2)
theorem in_num (s : ByteArray) (e : Option Int) (n : Int) : Ev (fun k => le_In_Num.f k s e n) (inNum s e n) := by
  have bad : n < 1 ∨ n > 7 → Ev (fun k => le_In_Num.j0 k n true s e) (inNum s e n) := fun h => by
    refine Ev.step (fun k => by rw [le_In_Num.j0, if_pos rfl, in_fail, Option.bind_some]) ?_
    unfold inNum inNumE
    rw [if_pos h]
    simp only [in_text, Option.bind_some]
    exact Ev.bind (le_Get_ev _) (Ev.now _)
  unfold le_In_Num.f
  by_cases h1 : n < 1
  · simp only [if_pos h1]; exact bad (.inl h1)
  · simp only [if_neg h1]
    by_cases h2 : n > 7
    · rw [decide_eq_true h2]; exact bad (.inr h2)
    · rw [decide_eq_false h2]
      refine Ev.step (fun k => by rw [le_In_Num.j0, if_neg (by decide)]) ?_
      unfold inNum inNumE
      rw [if_neg (by omega)]
      simp only [in_text, Option.bind_some]
      exact Ev.bind (le_Get_ev _) (Ev.now _)
/-- What Noughts leaves. -/
def inNoughts (s : ByteArray) (e : Option Int) (n : Int) : ByteArray × Option Int :=
  ((inText s e n).2.1, if (inText s e n).1.data.toList.all (· == 0) = true then (inText s e n).2.2 else (if (inText s e n).2.2.isNone = true then some 4 else some ((inText s e n).2.2.getD 0)))
theorem in_text_size (s : ByteArray) (e : Option Int) (n : Int) : (inText s e n).1.size ≤ s.size := by
  unfold inText
  split
  · split
    · exact Nat.zero_le _
    · split
      · exact Nat.zero_le _
      · show (s.extract 0 n.toNat).size ≤ s.size
        rw [ByteArray.size_extract]; omega
  · exact Nat.zero_le _
/-- What End answers. -/
def inEnd (s : ByteArray) (e : Option Int) : Option Int := if e.isNone = true then (if s.data.toList = [] then none else some 10) else some (e.getD 0)
theorem in_end (s : ByteArray) (e : Option Int) : ∃ r, le_In_End.f s e = some (inEnd s e, r) := by
  unfold le_In_End.f inEnd
  rw [dl]
  split
  · split <;> exact ⟨_, rfl⟩
  · exact ⟨_, rfl⟩

/-! ### superget -/
theorem in_num_ok (s : ByteArray) (n : Nat) (h1 : 1 ≤ n) (h7 : n ≤ 7) (h : n ≤ s.size) : inNum s none (n : Int) = ((unB (s.data.toList.take n) : Int), s.extract n s.size, none) := by
  have e : inNumE none (n : Int) = none := by unfold inNumE; rw [if_neg (by omega)]
  have t : inText s none (n : Int) = (s.extract 0 n, s.extract n s.size, none) := by
    unfold inText
    simp only [Option.isNone_none, if_true]
    rw [if_neg (by omega), if_neg (by omega), Int.toNat_natCast]
  unfold inNum
  rw [e, t]
  have hs : (s.extract 0 n).size ≤ 7 := by rw [ByteArray.size_extract]; omega
  have hd : (s.extract 0 n).data.toList = s.data.toList.take n := by rw [bex, List.drop_zero]
  unfold leGetS
  rw [if_pos hs, hd]
theorem in_noughts_ok (s : ByteArray) (n : Nat) (h : n ≤ s.size) : inNoughts s none (n : Int) = (s.extract n s.size, if (s.data.toList.take n).all (· == 0) = true then none else some 4) := by
  have t : inText s none (n : Int) = (s.extract 0 n, s.extract n s.size, none) := by
    unfold inText
    simp only [Option.isNone_none, if_true]
    rw [if_neg (by omega), if_neg (by omega), Int.toNat_natCast]
  have hd : (s.extract 0 n).data.toList = s.data.toList.take n := by rw [bex, List.drop_zero]
  unfold inNoughts
  rw [t]
  simp only [hd, Option.isNone_none, if_true]
theorem bex_end (s : ByteArray) (a : Nat) : (s.extract a s.size).data.toList = s.data.toList.drop a := by
  rw [bex, List.take_of_length_le (by rw [dlen]; exact Nat.le_refl _)]
/-- What Get answers, of a body. -/
def supBody (b : List UInt8) : Int × Int × Option Int :=
  if (b.drop 4).all (· == 0) = true then (if rightL (unB (b.take 2) : Int) (unB ((b.drop 2).take 2) : Int) = true then ((unB (b.take 2) : Int), (unB ((b.drop 2).take 2) : Int), none) else (0, 0, some 17)) else (0, 0, some 4)
/-! ### ref01put -/
theorem leB_snoc : ∀ (i m : Nat), leB (i + 1) m = leB i m ++ [UInt8.ofNat (m / 256 ^ i % 256)]
  | 0, m => by simp [leB]
  | i + 1, m => by
    have h := leB_snoc i (m / 256)
    show UInt8.ofNat (m % 256) :: leB (i + 1) (m / 256) = (UInt8.ofNat (m % 256) :: leB i (m / 256)) ++ [UInt8.ofNat (m / 256 ^ (i + 1) % 256)]
    rw [h, Nat.div_div_eq_div_mul, Nat.pow_succ']; rfl
theorem ref01_Put_loop (m size : Nat) (hs : size ≤ 7) : ∀ (d i : Nat), i + d = size → (m : Int) ≤ 9223372036854775807 →
    Ev (fun k => posthorseref01_Put.l0 k ((m / 256 ^ i : Nat) : Int) (size : Int) ⟨(leB i m).toArray⟩ (i : Int)) (if m < 256 ^ size then ⟨(leB size m).toArray⟩ else ⟨#[]⟩) := by
  intro d
  induction d with
  | zero =>
    intro i hi hm
    obtain rfl : i = size := by omega
    refine Ev.from 1 fun k => ?_
    rw [posthorseref01_Put.l0, if_neg (by omega)]
    by_cases h : m < 256 ^ i
    · rw [if_pos h, Nat.div_eq_of_lt h, if_neg (by decide)]
    · have hp : 0 < m / 256 ^ i := Nat.div_pos (by omega) (Nat.pow_pos (by decide))
      rw [if_neg h, if_pos (by omega)]
  | succ d ih =>
    intro i hi hm
    have hle : m / 256 ^ i ≤ m := Nat.div_le_self _ _
    have hq1 : m / 256 ^ (i + 1) = m / 256 ^ i / 256 := by rw [Nat.div_div_eq_div_mul, ← Nat.pow_succ]
    have hsn := leB_snoc i m
    have ih' := ih (i + 1) (by omega) hm
    rw [hq1] at ih'
    generalize m / 256 ^ i = q at hle hsn ih' ⊢
    have e1 : wrap64 ((i : Int) + 1) = ((i + 1 : Nat) : Int) := by rw [w64 (by omega) (by omega)]; omega
    have e2 : wrap64 (Int.tdiv (q : Int) 256) = ((q / 256 : Nat) : Int) := by
      rw [Int.tdiv_eq_ediv_of_nonneg (by omega), w64 (by omega) (by omega)]; omega
    have e3 : (⟨(leB i m).toArray⟩ : ByteArray) ++ (strOfNums [(Int.tmod (q : Int) 256) % 256]) = ⟨(leB (i + 1) m).toArray⟩ := by
      rw [deq, dapp, hsn]
      have h1 : ((Int.tmod (q : Int) 256) % 256).toNat = q % 256 := by
        rw [Int.tmod_eq_emod_of_nonneg (by omega)]; omega
      simp only [strOfNums, List.map_cons, List.map_nil, h1]
    have e4 : (⟨(leB i m).toArray⟩ : ByteArray).size = i := by rw [← dlen]; simp [leB_len]
    have e5 : (strOfNums [(Int.tmod (q : Int) 256) % 256]).size = 1 := by simp [strOfNums, ByteArray.size]
    refine Ev.step (fun k => ?_) ih'
    rw [posthorseref01_Put.l0, if_pos (by omega)]
    simp only [Option.bind_some, e1, e2, e3, e4, e5]
    rw [if_pos (by omega)]
theorem ref01_Put_ev (n size : Int) (hn : (Lit.int .i64 n).wf = true) : Ev (fun k => posthorseref01_Put.f k n size) (lePutS n size) := by
  have bn := i64b hn
  have bad : ¬ (1 ≤ size ∧ size ≤ 7 ∧ 0 ≤ n ∧ n < 256 ^ size.toNat) → Ev (fun k => posthorseref01_Put.j0 k n size true) (lePutS n size) := by
    intro h
    refine Ev.from 1 fun k => ?_
    rw [posthorseref01_Put.j0, if_pos rfl, lePutS, if_neg h]
  unfold posthorseref01_Put.f
  by_cases h1 : size < 1
  · simp only [if_pos h1]; exact bad (by omega)
  · by_cases h2 : size > 7
    · simp only [if_neg h1, if_pos h2]; exact bad (by omega)
    · simp only [if_neg h1, if_neg h2]
      by_cases h3 : n < 0
      · rw [decide_eq_true h3]; exact bad (by omega)
      · rw [decide_eq_false h3]
        obtain ⟨s, rfl⟩ := Int.eq_ofNat_of_zero_le (show 0 ≤ size by omega)
        obtain ⟨m, rfl⟩ := Int.eq_ofNat_of_zero_le (show 0 ≤ n by omega)
        have := ref01_Put_loop m s (by omega) s 0 (by omega) (by omega)
        rw [Nat.pow_zero, Nat.div_one] at this
        have e5 : lePutS (m : Int) (s : Int) = (if m < 256 ^ s then ⟨(leB s m).toArray⟩ else ⟨#[]⟩) := by
          unfold lePutS
          rw [Int.toNat_natCast, Int.toNat_natCast]
          have hc : ((256 : Int) ^ s) = ((256 ^ s : Nat) : Int) := by rw [Int.natCast_pow]; rfl
          by_cases hm : m < 256 ^ s
          · rw [if_pos hm, if_pos ⟨by omega, by omega, by omega, by rw [hc]; exact Int.ofNat_lt.2 hm⟩]
          · rw [if_neg hm, if_neg (fun ⟨_, _, _, h⟩ => hm (by rw [hc] at h; exact Int.ofNat_lt.1 h))]
        rw [e5]
        exact Ev.step (fun k => by rw [posthorseref01_Put.j0, if_neg (by decide)]; rfl) this

/-! ### leputget -/
/-- A number's bytes, read again. -/
theorem leGet_put (n size : Int) (hr : 1 ≤ size ∧ size ≤ 7 ∧ 0 ≤ n ∧ n < 256 ^ size.toNat) : leGetS (lePutS n size) = n := by
  unfold lePutS
  rw [if_pos hr]
  unfold leGetS
  have e : (⟨(leB size.toNat n.toNat).toArray⟩ : ByteArray).size = size.toNat := by rw [← dlen]; simp [leB_len]
  rw [e, if_pos (by omega)]
  show ((unB (leB size.toNat n.toNat) : Nat) : Int) = n
  rw [unB_leB, Nat.mod_eq_of_lt]
  · omega
  · have h := hr.2.2.2
    have hc : ((256 : Int) ^ size.toNat) = ((256 ^ size.toNat : Nat) : Int) := by rw [Int.natCast_pow]; rfl
    rw [hc] at h
    have := hr.2.2.1
    omega
theorem lePut_size (n size : Int) (hr : 1 ≤ size ∧ size ≤ 7 ∧ 0 ≤ n ∧ n < 256 ^ size.toNat) : (lePutS n size).size = size.toNat := by
  unfold lePutS
  rw [if_pos hr, ← dlen]; simp [leB_len]

/-! ### LeOuts -/
abbrev It := S47
/-- An item's bytes. -/
def ib (x : It) : List UInt8 := if x.f3 = true then (itT x).data.toList ++ List.replicate (itZ x - (itT x).size).toNat 0 else (lePutS x.f1 (itZ x)).data.toList
/-- Does an item go into its bytes? -/
def gd (x : It) : Prop := if x.f3 = true then ((itT x).size : Int) ≤ itZ x else (lePutS x.f1 (itZ x)).data.toList ≠ []
def preB (l : List It) : Nat → List UInt8
  | 0 => []
  | i + 1 => preB l i ++ ib (rd_T47 l (i : Int))
def restB (l : List It) : Nat → Nat → List UInt8
  | 0, _ => []
  | d + 1, i => ib (rd_T47 l (i : Int)) ++ restB l d (i + 1)
theorem pre_rest (l : List It) : ∀ d i, preB l (i + d) = preB l i ++ restB l d i
  | 0, i => by simp [restB]
  | d + 1, i => by
    rw [show i + (d + 1) = (i + 1) + d by omega, pre_rest l d (i + 1), preB, restB, List.append_assoc]
theorem put_len {n z : Int} (h : (lePutS n z).data.toList ≠ []) : (1 ≤ z ∧ z ≤ 7 ∧ 0 ≤ n ∧ n < 256 ^ z.toNat) ∧ (lePutS n z).size = z.toNat := by
  unfold lePutS at h ⊢
  split at h
  · rename_i hc
    rw [if_pos hc]
    exact ⟨hc, by rw [← dlen]; exact leB_len _ _⟩
  · exact absurd rfl h
theorem back (l : List It) (n : Nat) (hn : n = min 20 l.length) (hg : ∀ j, j < n → gd (rd_T47 l (j : Int))) : ∀ (d i : Nat) (s : ByteArray), i + d = n → s.data.toList = restB l d i → Ev (fun k => posthorselaw01_LeOuts.l1 k l s none (i : Int)) true := by
  intro d
  induction d with
  | zero =>
    intro i s hi hs
    refine Ev.step (fun k => by rw [posthorselaw01_LeOuts.l1, if_neg (by omega)]) ?_
    obtain ⟨r, hr⟩ := in_end s none
    have he : inEnd s none = none := by unfold inEnd; simp only [Option.isNone_none, if_true]; rw [if_pos (show s.data.toList = [] from hs)]
    rw [he] at hr
    simp only [hr, Option.bind_some, Option.isNone_none]
    exact Ev.now _
  | succ d ih =>
    intro i s hi hs
    have e1 : ((i : Int) + 1) = ((i + 1 : Nat) : Int) := by omega
    have hgi := hg i (by omega)
    rw [restB] at hs
    refine Ev.step (fun k => by rw [posthorselaw01_LeOuts.l1, if_pos (by omega), e1]) ?_
    generalize rd_T47 l (i : Int) = x at *
    have hsl := congrArg List.length hs
    rw [List.length_append, dlen] at hsl
    unfold ib gd at *
    by_cases h3 : x.f3 = true
    · rw [if_pos h3] at hgi hs hsl
      simp only [if_pos h3, in_text, Option.bind_some]
      rw [List.length_append, List.length_replicate, dlen] at hsl
      have ht : inText s none (itZ x) = (s.extract 0 (itZ x).toNat, s.extract (itZ x).toNat s.size, none) := by
        unfold inText
        simp only [Option.isNone_none, if_true]
        rw [if_neg (by omega), if_neg (by omega)]
      have hd : (s.extract 0 (itZ x).toNat).data.toList = (itT x).data.toList ++ List.replicate (itZ x - (itT x).size).toNat 0 := by
        rw [bex, List.drop_zero, hs]
        exact List.take_left' (by rw [List.length_append, List.length_replicate, dlen]; omega)
      have hr : (s.extract (itZ x).toNat s.size).data.toList = restB l d (i + 1) := by
        rw [bex_end, hs]
        exact List.drop_left' (by rw [List.length_append, List.length_replicate, dlen]; omega)
      have hz : (s.extract 0 (itZ x).toNat).size = (itZ x).toNat := by rw [ByteArray.size_extract]; omega
      have hb : ((s.extract 0 (itZ x).toNat).extract 0 (itT x).size).toList = (itT x).toList := by
        rw [dl, dl, bex, List.drop_zero, hd]
        exact List.take_left' (dlen _)
      rw [ht]
      simp only [if_pos (show (itT x).size ≤ (s.extract 0 (itZ x).toNat).size by omega), if_pos hb]
      exact ih (i + 1) _ (by omega) hr
    · rw [if_neg h3] at hgi hs hsl
      simp only [if_neg h3]
      obtain ⟨hc, hsz⟩ := put_len hgi
      rw [dlen, hsz] at hsl
      obtain ⟨z, hz⟩ := Int.eq_ofNat_of_zero_le (show 0 ≤ itZ x by omega)
      have hnum := in_num s none (itZ x)
      rw [hz, in_num_ok s z (by omega) (by omega) (by omega)] at hnum
      have hd : s.data.toList.take z = (lePutS x.f1 (itZ x)).data.toList := by
        rw [hs]
        exact List.take_left' (by rw [dlen, hsz]; omega)
      have hget := leGet_put x.f1 (itZ x) hc
      unfold leGetS at hget
      rw [if_pos (by omega), ← hd] at hget
      rw [hz]
      refine Ev.bind hnum ?_
      simp only [if_pos hget]
      refine ih (i + 1) _ (by omega) ?_
      rw [bex_end, hs]
      exact List.drop_left' (by rw [dlen, hsz]; omega)
theorem ib_len (x : It) (h : gd x) : (ib x).length ≤ 60 := by
  have hz : itZ x ≤ 60 := by unfold itZ mn; split <;> omega
  unfold gd ib at *
  by_cases h3 : x.f3 = true
  · rw [if_pos h3] at h ⊢
    rw [List.length_append, List.length_replicate, dlen]; omega
  · rw [if_neg h3] at h ⊢
    have := put_len h
    rw [dlen, this.2]; omega
theorem forth (l : List It) (hw : ∀ j, j < l.length → (Lit.int .i64 (rd_T47 l (j : Int)).f1).wf = true) : ∀ (d i : Nat) (acc : ByteArray) (lg : Bool), i + d = min 20 l.length → acc.size ≤ 60 * i → (lg = false → acc.data.toList = preB l i ∧ ∀ j, j < i → gd (rd_T47 l (j : Int))) → Ev (fun k => posthorselaw01_LeOuts.l0 k l acc lg acc lg (i : Int)) true := by
  intro d
  induction d with
  | zero =>
    intro i acc lg hi ha hp
    refine Ev.step (fun k => by rw [posthorselaw01_LeOuts.l0, if_pos (by omega), if_neg (by omega)]) ?_
    cases lg with
    | true =>
      have e0 : ByteArray.toList ⟨#[]⟩ = [] := by rw [dl]
      simp only [if_true, outString, e0]
      exact Ev.bind (f := fun (_ : Nat) (c : Int) => some (c == 10)) (a := 10) (Ev.now _) (Ev.now _)
    | false =>
      obtain ⟨h1, h2⟩ := hp rfl
      simp only [Bool.false_eq_true, if_false, outString, Option.isNone_none, if_true]
      refine back l i (by omega) h2 i 0 acc (by omega) ?_
      have := pre_rest l i 0
      rw [Nat.zero_add] at this
      rw [h1, this]; rfl
  | succ d ih =>
    intro i acc lg hi ha hp
    have e1 : ((i : Int) + 1) = ((i + 1 : Nat) : Int) := by omega
    have hwi := hw i (by omega)
    refine Ev.step (fun k => by rw [posthorselaw01_LeOuts.l0, if_pos (by omega), if_pos (by omega), e1]) ?_
    have hpre : preB l (i + 1) = preB l i ++ ib (rd_T47 l (i : Int)) := rfl
    have hall : gd (rd_T47 l (i : Int)) → (∀ j, j < i → gd (rd_T47 l (j : Int))) → ∀ j, j < i + 1 → gd (rd_T47 l (j : Int)) := fun h1 h2 j hj => by
      by_cases e : j = i
      · subst e; exact h1
      · exact h2 j (by omega)
    generalize rd_T47 l (i : Int) = x at *
    have hz : itZ x ≤ 60 := by unfold itZ mn; split <;> omega
    by_cases h3 : x.f3 = true
    · simp only [if_pos h3]
      by_cases hT : ((itT x).size : Int) > itZ x
      · simp only [if_pos hT]
        exact ih (i + 1) acc true (by omega) (by omega) (fun h => by cases h)
      · simp only [if_neg hT]
        have hgx : gd x := by unfold gd; rw [if_pos h3]; omega
        have hib : ib x = (itT x).data.toList ++ List.replicate (itZ x - (itT x).size).toNat 0 := by unfold ib; rw [if_pos h3]
        have hdat : (acc ++ (itT x ++ zerosB (itZ x - (itT x).size).toNat)).data.toList = acc.data.toList ++ ib x := by rw [dapp, dapp, hib]; rfl
        refine ih (i + 1) _ lg (by omega) ?_ (fun h => ?_)
        · have := ib_len x hgx
          rw [← dlen, hdat, List.length_append, dlen]; omega
        · obtain ⟨h1, h2⟩ := hp h
          exact ⟨by rw [hdat, h1, hpre], hall hgx h2⟩
    · simp only [if_neg h3]
      refine Ev.bind (le_Put_ev _ _ hwi) (Ev.bind (ref01_Put_ev _ _ hwi) ?_)
      have hsz : (lePutS x.f1 (itZ x)).size ≤ 7 := by
        by_cases he : (lePutS x.f1 (itZ x)).data.toList = []
        · have := congrArg List.length he
          rw [dlen] at this
          simp only [List.length_nil] at this
          omega
        · have := put_len he; omega
      simp only [if_pos (show (lePutS x.f1 (itZ x)).size ≤ 7 ∧ (lePutS x.f1 (itZ x)).size ≤ 7 from ⟨hsz, hsz⟩)]
      refine ih (i + 1) _ _ (by omega) (by rw [ByteArray.size_append]; omega) (fun h => ?_)
      rw [Bool.or_eq_false_iff] at h
      obtain ⟨h1, h2⟩ := hp h.1
      have hne : (lePutS x.f1 (itZ x)).data.toList ≠ [] := by
        have := h.2
        rw [dl] at this
        intro he
        rw [he] at this
        cases this
      have hgx : gd x := by unfold gd; rw [if_neg h3]; exact hne
      refine ⟨?_, hall hgx h2⟩
      rw [dapp, h1, hpre]
      unfold ib
      rw [if_neg h3]
theorem LeOuts : LeOuts.Pure := by
  intro l hl
  refine Ev.rounds (g := fun k => posthorselaw01_LeOuts.f k l) ?_
  unfold posthorselaw01_LeOuts.f
  refine forth l (fun j hj => ?_) (min 20 l.length) 0 ⟨#[]⟩ false (by omega) (Nat.le_refl _) (fun _ => ⟨rfl, fun j hj => by omega⟩)
  have e : rd_T47 l (j : Int) = l[j] := by
    unfold rd_T47
    rw [Int.toNat_natCast, List.getD_eq_getElem?_getD, List.getElem?_eq_getElem hj]; rfl
  rw [e]
  exact (hl.2.2 _ (List.getElem_mem hj)).2.1

end Go.Proofs.YtdlmgjpnlgdpkaaDoor.Pure
