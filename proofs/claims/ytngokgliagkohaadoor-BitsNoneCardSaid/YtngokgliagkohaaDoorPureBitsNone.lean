/- BitsNone: the pure law; for every input, no condition. -/
import Derived.Test.YtngokgliagkohaaDoorVBitsNonex13
import Derived.OpenShut
import Derived.Lib.IndexEntry
namespace Go.Proofs.YtngokgliagkohaaDoor.Pure
open Go Go.RowKit Go.Proofs.YtngokgliagkohaaDoor.VBitsNone Go.Proofs.YtngokgliagkohaaDoorW.PrintWords Go.Proofs.YtngokgliagkohaaDoorW.PrintLast
set_option linter.unusedSimpArgs false
set_option linter.unusedVariables false

def BitsNone.Pure : Prop := ∀ (a0 : Int) (a1 : Int), (Lit.int .i64 a0).wf = true → (Lit.int .i64 a1).wf = true → ∃ k, posthorselaw07_BitsNone.f k a0 a1 = some true
/-! ### base -/
theorem dl (s : ByteArray) : s.toList = s.data.toList := Lib.toList_data s
theorem deq {a b : ByteArray} : a = b ↔ a.data.toList = b.data.toList := ⟨fun h => by rw [h], fun h => Go.WideShapes.bytes_inj h⟩
theorem dapp (a b : ByteArray) : (a ++ b).data.toList = a.data.toList ++ b.data.toList := by simp
theorem dlen (a : ByteArray) : a.data.toList.length = a.size := by rw [Array.length_toList]; rfl
theorem w64 {n : Int} (h0 : -9223372036854775808 ≤ n) (h1 : n ≤ 9223372036854775807) : wrap64 n = n := by unfold wrap64; omega
theorem i64b {n : Int} (h : (Lit.int .i64 n).wf = true) : -9223372036854775808 ≤ n ∧ n ≤ 9223372036854775807 := bounds_i64 h
theorem u8w (n : Int) : IntKind.u8.wrap n = n % 256 := IntKind.wrap_u8 n
theorem Ev.all {α : Type} {g : Nat → Option α} {r : α} (h : ∀ k, g k = some r) : Ev g r := ⟨0, fun k _ => h k⟩
theorem Ev.bindS {α β : Type} {g : Nat → Option α} {f : Nat → α → Option β} {a : α} {r : β} (h : Ev g a) (k : Ev (fun n => f n a) r) : Ev (fun n => (g n).bind (f n)) r := Ev.bind h k
theorem Ev.from {α : Type} {g : Nat → Option α} {r : α} (j : Nat) (h : ∀ k, g (k + j) = some r) : Ev g r := ⟨j, fun k hk => by have := h (k - j); rwa [Nat.sub_add_cancel hk] at this⟩
theorem Ev.to {α : Type} {g : Nat → Option α} {r : α} (h : Ev g r) : ∃ k, g k = some r := h.rounds
theorem Ev.at_ {α : Type} {g : Nat → Option α} {r : α} (hg : ∀ k, LeO (g k) (g (k + 1))) {j : Nat} (h : g j = some r) : Ev g r := Ev.of hg h

/-! ### le -/
/-- The bytes of a number, the lowest first. -/
def leB : Nat → Nat → List UInt8
  | 0, _ => []
  | s + 1, n => UInt8.ofNat (n % 256) :: leB s (n / 256)
theorem leB_len : ∀ s n, (leB s n).length = s
  | 0, _ => rfl
  | s + 1, n => by rw [leB, List.length_cons, leB_len s]
/-- .. and back. -/
def unB : List UInt8 → Nat
  | [] => 0
  | b :: r => b.toNat + 256 * unB r
theorem unB_leB : ∀ s n, unB (leB s n) = n % 256 ^ s
  | 0, n => by simp [leB, unB, Nat.mod_one]
  | s + 1, n => by
    rw [leB, unB, unB_leB s]
    have h1 : (UInt8.ofNat (n % 256)).toNat = n % 256 := by simp
    rw [h1, Nat.pow_succ', Nat.mod_mul]
theorem unB_lt : ∀ l : List UInt8, unB l < 256 ^ l.length
  | [] => by simp [unB]
  | b :: r => by
    have := unB_lt r
    have := b.toNat_lt
    rw [unB, List.length_cons, Nat.pow_succ]
    omega
theorem leB_unB : ∀ l : List UInt8, leB l.length (unB l) = l
  | [] => rfl
  | b :: r => by
    have hb := b.toNat_lt
    rw [unB, List.length_cons, leB]
    have h1 : (b.toNat + 256 * unB r) % 256 = b.toNat := by omega
    have h2 : (b.toNat + 256 * unB r) / 256 = unB r := by omega
    rw [h1, h2, leB_unB r]; simp
theorem leB_get : ∀ (s n j : Nat), j < s → (leB s n)[j]? = some (UInt8.ofNat (n / 256 ^ j % 256))
  | s + 1, n, 0, _ => by simp [leB]
  | s + 1, n, j + 1, h => by
    rw [leB, List.getElem?_cons_succ, leB_get s _ j (by omega), Nat.div_div_eq_div_mul, Nat.pow_succ']
/-- What Put answers. -/
def lePutS (n size : Int) : ByteArray := if 1 ≤ size ∧ size ≤ 7 ∧ 0 ≤ n ∧ n < 256 ^ size.toNat then ⟨(leB size.toNat n.toNat).toArray⟩ else ⟨#[]⟩
/-- The row that Put fills, behind i rounds. -/
def leRow (n : Int) (size i : Nat) : List Int := (List.range size).map fun j => if j < i then n / 256 ^ j % 256 else 0
theorem leRow_len (n : Int) (size i : Nat) : (leRow n size i).length = size := by simp [leRow]
theorem leRow_set (n : Int) (size i : Nat) (_ : i < size) : (leRow n size i).set i (n / 256 ^ i % 256) = leRow n size (i + 1) := by
  apply List.ext_getElem
  · simp [leRow]
  · intro j h1 h2
    simp only [leRow, List.length_map, List.length_range, List.length_set] at h1 h2
    rw [List.getElem_set]
    simp only [leRow, List.getElem_map, List.getElem_range]
    by_cases e : i = j
    · subst e; simp
    · rw [if_neg e]
      by_cases hj : j < i
      · rw [if_pos hj, if_pos (by omega)]
      · rw [if_neg hj, if_neg (by omega)]
theorem divcast (m s : Nat) : (m : Int) / 256 ^ s = ((m / 256 ^ s : Nat) : Int) := by
  rw [Int.natCast_ediv]; congr 1
theorem leRow_full (n : Nat) (size : Nat) : Go.strOfNums (leRow n size size) = ⟨(leB size n).toArray⟩ := by
  unfold Go.strOfNums
  congr 2
  apply List.ext_getElem?
  intro j
  by_cases hj : j < size
  · rw [leB_get _ _ _ hj, leRow, List.getElem?_map, List.getElem?_map, List.getElem?_range hj]
    simp only [Option.map_some, if_pos hj]
    have : ((n : Int) / 256 ^ j % 256).toNat = n / 256 ^ j % 256 := by
      have h1 : ((n : Int) / 256 ^ j % 256) = ((n / 256 ^ j % 256 : Nat) : Int) := by rw [divcast]; rfl
      rw [h1, Int.toNat_natCast]
    rw [this]
  · rw [List.getElem?_eq_none (by simp [leRow]; omega), List.getElem?_eq_none (by rw [leB_len]; omega)]
theorem shr_pow (n : Int) (i : Nat) (hi : i ≤ 7) : shr .i64 n (wrap64 (8 * (i : Int))) = n / 256 ^ i := by
  rw [w64 (by omega) (by omega)]
  unfold shr
  have h1 : min (8 * (i : Int)).toNat (IntKind.bits .i64) = 8 * i := by
    have h2 : (8 * (i : Int)).toNat = 8 * i := by omega
    rw [h2]; show min (8 * i) 64 = 8 * i; omega
  rw [h1]
  have h3 : (2 : Int) ^ (8 * i) = 256 ^ i := by
    have h := congrArg (fun x : Nat => (x : Int)) (Nat.pow_mul 2 8 i)
    simp only [Int.natCast_pow] at h
    exact h
  rw [h3]
theorem le_Put_loop (n : Int) (size : Nat) (hs : size ≤ 7) (h0 : 0 ≤ n) : ∀ (d i : Nat), i + d = size → Ev (fun k => le_Put.l0 k n (leRow n size i) (size : Int) (i : Int)) (Go.strOfNums (leRow n size size)) := by
  intro d
  induction d with
  | zero =>
    intro i hi
    obtain rfl : i = size := by omega
    refine Ev.from 1 fun k => ?_
    rw [le_Put.l0, if_neg (by omega)]
  | succ d ih =>
    intro i hi
    refine Ev.step (f := fun k => le_Put.l0 k n (leRow n size (i + 1)) (size : Int) ((i + 1 : Nat) : Int)) (fun k => ?_) (ih (i + 1) (by omega))
    have e1 : wrap64 (8 * (i : Int)) = 8 * (i : Int) := w64 (by omega) (by omega)
    have e2 : wrap64 ((i : Int) + 1) = ((i + 1 : Nat) : Int) := by rw [w64 (by omega) (by omega)]; omega
    rw [le_Put.l0, if_pos (by omega), if_pos (by rw [e1]; omega), if_pos (by omega), if_pos (by rw [leRow_len]; omega), e2, shr_pow n i (by omega), Int.toNat_natCast, leRow_set n size i (by omega)]
theorem le_Put_ev (n size : Int) (hn : (Lit.int .i64 n).wf = true) : Ev (fun k => le_Put.f k n size) (lePutS n size) := by
  have bn := i64b hn
  have bad : ∀ (n size : Int), ¬ (1 ≤ size ∧ size ≤ 7 ∧ 0 ≤ n ∧ n < 256 ^ size.toNat) → Ev (fun k => le_Put.j0 k n size true) (lePutS n size) := by
    intro n size h
    refine Ev.from 1 fun k => ?_
    rw [le_Put.j0, if_pos rfl, lePutS, if_neg h]
  unfold le_Put.f
  by_cases h1 : size < 1
  · simp only [if_pos h1]; exact bad n size (by omega)
  · by_cases h2 : size > 7
    · simp only [if_neg h1, if_pos h2]; exact bad n size (by omega)
    · by_cases h3 : n < 0
      · simp only [if_neg h1, if_neg h2, if_pos h3]; exact bad n size (by omega)
      · obtain ⟨s, rfl⟩ := Int.eq_ofNat_of_zero_le (show 0 ≤ size by omega)
        obtain ⟨m, rfl⟩ := Int.eq_ofNat_of_zero_le (show 0 ≤ n by omega)
        have e1 : wrap64 (8 * (s : Int)) = 8 * (s : Int) := w64 (by omega) (by omega)
        simp only [if_neg h1, if_neg h2, if_neg h3, if_pos (show 0 ≤ wrap64 (8 * (s : Int)) by rw [e1]; omega)]
        rw [shr_pow _ s (by omega)]
        by_cases h4 : m < 256 ^ s
        · have e3 : ((m : Int) / 256 ^ s != 0) = false := by
            rw [divcast, Nat.div_eq_of_lt h4]; rfl
          rw [e3]
          refine Ev.step (f := fun k => le_Put.l0 k (m : Int) (leRow m s 0) (s : Int) ((0 : Nat) : Int)) (fun k => ?_) ?_
          · rw [le_Put.j0, if_neg (by decide), if_pos (by omega), if_pos (by omega)]
            have e4 : (List.replicate (s : Int).toNat 0 : List Int) = leRow m s 0 := by
              rw [Int.toNat_natCast]
              apply List.ext_getElem
              · simp [leRow]
              · intro j h1 h2; simp [leRow]
            simp only [Option.bind_some, e4, leRow_len]
            rfl
          · have := le_Put_loop (m : Int) s (by omega) (by omega) s 0 (by omega)
            rw [leRow_full] at this
            have e5 : lePutS (m : Int) (s : Int) = ⟨(leB s m).toArray⟩ := by
              unfold lePutS
              rw [if_pos ⟨by omega, by omega, by omega, by rw [Int.toNat_natCast]; have h' := Int.ofNat_lt.2 h4; rw [Int.natCast_pow] at h'; exact h'⟩, Int.toNat_natCast, Int.toNat_natCast]
            rw [e5]; exact this
        · have e3 : ((m : Int) / 256 ^ s != 0) = true := by
            rw [divcast, bne_iff_ne]
            have : 0 < m / 256 ^ s := Nat.div_pos (by omega) (Nat.pow_pos (by decide))
            omega
          rw [e3]
          refine bad _ _ ?_
          rw [Int.toNat_natCast]
          intro ⟨_, _, _, h⟩
          have h' : ((m : Nat) : Int) < ((256 ^ s : Nat) : Int) := by rw [Int.natCast_pow]; exact h
          exact h4 (Int.ofNat_lt.1 h')

/-! ### bt -/
theorem bt_at_nat (s : ByteArray) (i : Nat) (h : i < s.data.toList.length) : bt s (i : Int) = ((s.data.toList[i]).toNat : Int) := by
  have h' : i < s.size := by rw [← dlen]; exact h
  unfold bt
  rw [Int.toNat_natCast, dif_pos h', Array.getElem_toList]; rfl

/-! ### markseal -/
theorem sumOfL_lt (l : List UInt8) : sumOfL l < 4294967296 := by unfold sumOfL; omega
/-- The sum's bytes. -/
def sumB (l : List UInt8) : List UInt8 := leB 4 (sumOfL l)
/-- The head's bytes. -/
def headB (kind : Nat) : List UInt8 := [80, 72, UInt8.ofNat (kind % 256), 0]
theorem wf_of {n : Int} (h0 : -9223372036854775808 ≤ n) (h1 : n ≤ 9223372036854775807) : (Lit.int .i64 n).wf = true := by
  have := wrap64_wf n
  rwa [w64 h0 h1] at this
theorem sumOf_ev (s : ByteArray) (hs : s.size ≤ 140737488355328) : Ev (fun k => mark_sumOf.f k s) ⟨(sumB s.data.toList).toArray⟩ := by
  have h := sumOfL_lt s.data.toList
  unfold mark_sumOf.f mark_Sum.f
  rw [if_pos hs]
  refine Ev.bind (Ev.now _) ?_
  rw [w64 (by omega) (by omega)]
  have e : lePutS (sumOfL s.data.toList : Int) 4 = ⟨(sumB s.data.toList).toArray⟩ := by
    unfold lePutS sumB
    rw [if_pos ⟨by omega, by omega, by omega, by show (sumOfL s.data.toList : Int) < 256 ^ 4; omega⟩]; rfl
  rw [← e]
  refine Ev.bind (le_Put_ev _ 4 (wf_of (by omega) (by omega))) (Ev.now _)
theorem head_ev (kind : Int) (h1 : 1 ≤ kind) (h2 : kind ≤ 255) : Ev (fun k => mark_head.f k kind) ⟨(headB kind.toNat).toArray⟩ := by
  have e : lePutS kind 1 = ⟨#[UInt8.ofNat (kind.toNat % 256)]⟩ := by
    unfold lePutS
    rw [if_pos ⟨by omega, by omega, by omega, by show kind < 256 ^ 1; omega⟩]; rfl
  unfold mark_head.f
  refine Ev.bind (le_Put_ev kind 1 (wf_of (by omega) (by omega))) ?_
  rw [e]
  have es : (⟨#[UInt8.ofNat (kind.toNat % 256)]⟩ : ByteArray).size = 1 := rfl
  rw [if_pos (by rw [es]; decide), if_pos (by rw [ByteArray.size_append, es]; decide)]
  have e2 : (⟨#[80, 72]⟩ : ByteArray) ++ ⟨#[UInt8.ofNat (kind.toNat % 256)]⟩ ++ ⟨#[0]⟩ = ⟨(headB kind.toNat).toArray⟩ := by
    rw [deq]; simp [dapp, headB]
  rw [e2]; exact Ev.now _
theorem repeat_zero (c : Int) (h0 : 0 ≤ c) (h1 : c ≤ 140737488355328) : strings_Repeat.f ⟨#[0]⟩ c = some (zerosB c.toNat) := by
  unfold strings_Repeat.f
  rw [if_pos ⟨h0, by show ((1 : Nat) : Int) * c ≤ _; omega, by omega⟩, show (⟨#[0]⟩ : ByteArray).data.toList = [0] from rfl, repeat0]; rfl
/-- What is summed. -/
def bodyL (kind : Nat) (body : List UInt8) : List UInt8 := headB kind ++ body ++ List.replicate (504 - body.length) 0
/-- A sealed sector. -/
def sealL (kind : Nat) (body : List UInt8) : List UInt8 := bodyL kind body ++ sumB (bodyL kind body)
/-- What Seal answers. -/
def sealS (kind : Int) (body : ByteArray) : ByteArray × Option Int := if kind < 1 ∨ kind > 255 then (⟨#[]⟩, some 1) else if body.size > 504 then (⟨#[]⟩, some 10) else (⟨(sealL kind.toNat body.data.toList).toArray⟩, none)
theorem bodyL_len (kind : Nat) (body : List UInt8) (h : body.length ≤ 504) : (bodyL kind body).length = 508 := by
  simp [bodyL, headB]; omega
theorem sealL_len (kind : Nat) (body : List UInt8) (h : body.length ≤ 504) : (sealL kind body).length = 512 := by
  unfold sealL
  rw [List.length_append, bodyL_len kind body h]; rfl
theorem mark_Seal_ev (kind : Int) (body : ByteArray) : Ev (fun k => mark_Seal.f k kind body) (sealS kind body) := by
  have bad : kind < 1 ∨ kind > 255 → Ev (fun k => mark_Seal.j0 k kind body true) (sealS kind body) := fun h => by
    refine Ev.from 1 fun k => ?_
    rw [mark_Seal.j0, if_pos rfl, sealS, if_pos h]
  unfold mark_Seal.f
  by_cases h1 : kind < 1
  · simp only [if_pos h1]; exact bad (.inl h1)
  · simp only [if_neg h1]
    by_cases h2 : kind > 255
    · rw [decide_eq_true h2]; exact bad (.inr h2)
    · rw [decide_eq_false h2]
      unfold sealS
      rw [if_neg (by omega)]
      refine Ev.step (fun k => by rw [mark_Seal.j0, if_neg (by decide)]) ?_
      by_cases h3 : body.size > 504
      · simp only [if_pos (show (body.size : Int) > 504 by omega), if_pos h3]; exact Ev.now _
      · simp only [if_neg (show ¬ (body.size : Int) > 504 by omega), if_neg h3]
        have hs1 : (⟨(headB kind.toNat).toArray⟩ : ByteArray).size = 4 := rfl
        refine Ev.bind (head_ev kind (by omega) (by omega)) ?_
        simp only [if_pos (show (⟨(headB kind.toNat).toArray⟩ : ByteArray).size + body.size ≤ 9223372036854775807 by rw [hs1]; omega)]
        rw [w64 (by omega) (by omega), repeat_zero _ (by omega) (by omega)]
        refine Ev.bind (Ev.now _) ?_
        have hz : (zerosB (504 - (body.size : Int)).toNat).size = 504 - body.size := by rw [zerosB_size]; omega
        have e : (⟨(headB kind.toNat).toArray⟩ : ByteArray) ++ body ++ zerosB (504 - (body.size : Int)).toNat = ⟨(bodyL kind.toNat body.data.toList).toArray⟩ := by
          rw [deq, dapp, dapp]
          show headB kind.toNat ++ body.data.toList ++ List.replicate (504 - (body.size : Int)).toNat 0 = bodyL kind.toNat body.data.toList
          unfold bodyL
          rw [dlen, show (504 - (body.size : Int)).toNat = 504 - body.size by omega]
        have es : (⟨(bodyL kind.toNat body.data.toList).toArray⟩ : ByteArray).size = 508 := by
          rw [← dlen]; exact bodyL_len _ _ (by rw [dlen]; omega)
        simp only [if_pos (show ((⟨(headB kind.toNat).toArray⟩ : ByteArray) ++ body).size + (zerosB (504 - (body.size : Int)).toNat).size ≤ 9223372036854775807 by rw [ByteArray.size_append, hs1, hz]; omega)]
        rw [e]
        refine Ev.bind (sumOf_ev _ (by rw [es]; decide)) ?_
        have e4 : ∀ l : List UInt8, (⟨(sumB l).toArray⟩ : ByteArray).size = 4 := fun l => rfl
        simp only [if_pos (show (⟨(bodyL kind.toNat body.data.toList).toArray⟩ : ByteArray).size + (⟨(sumB (bodyL kind.toNat body.data.toList)).toArray⟩ : ByteArray).size ≤ 9223372036854775807 by rw [es, e4]; decide)]
        have e5 : (⟨(bodyL kind.toNat body.data.toList).toArray⟩ : ByteArray) ++ ⟨(sumB (bodyL kind.toNat body.data.toList)).toArray⟩ = ⟨(sealL kind.toNat body.data.toList).toArray⟩ := by
          rw [deq, dapp]; rfl
        rw [e5]; exact Ev.now _

/-! ### speaks07 -/
theorem seal5_head (l : List UInt8) (h : l.length = 504) : ∃ X : List UInt8, sealS 5 ⟨l.toArray⟩ = (⟨X.toArray⟩, none) ∧ X.length = 512 ∧ X.getD 4 0 = l.getD 0 0 := by
  refine ⟨sealL 5 l, ?_, sealL_len 5 l (by omega), ?_⟩
  · unfold sealS
    rw [if_neg (by omega), if_neg (show ¬ (⟨l.toArray⟩ : ByteArray).size > 504 by rw [← dlen]; show ¬ l.length > 504; omega)]; rfl
  · match l, h with
    | b :: r, _ => rfl
theorem speaks07_ev : Ev (fun k => posthorselaw07_speaks.f k) true := by
  obtain ⟨X, hX, hl, h4⟩ := seal5_head (setBytes spoken 8) (setBytes_len _ _)
  unfold posthorselaw07_speaks.f bits_Set_Put.f
  refine Ev.bind (a := (⟨X.toArray⟩, none)) ?_ ?_
  · rw [← hX]; exact mark_Seal_ev 5 _
  · refine Ev.from 0 fun k => ?_
    have h6 : (setBytes spoken 8).getD 0 0 = 6 := by decide +kernel
    rw [if_pos ⟨rfl, by rw [← dlen]; exact hl, by show X.getD 4 0 = 6; rw [h4, h6]⟩]

/-! ### BitsNone -/
theorem BitsNone : BitsNone.Pure := by
  intro a0 a1 _ _
  exact Ev.to speaks07_ev

end Go.Proofs.YtngokgliagkohaaDoor.Pure
