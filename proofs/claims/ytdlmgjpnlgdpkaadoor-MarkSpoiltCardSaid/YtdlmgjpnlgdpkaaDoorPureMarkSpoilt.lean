/- MarkSpoilt of layer 3: a sealed sector of which one byte to four in a row were changed isn't opened; for every input, no condition. -/
import Derived.Test.YtdlmgjpnlgdpkaaDoorVMarkSpoiltx9
import Derived.OpenShut
import Derived.Lib.IndexEntry
namespace Go.Proofs.YtdlmgjpnlgdpkaaDoor.Pure
open Go Go.RowKit Go.Proofs.YtdlmgjpnlgdpkaaDoor.VMarkSpoilt Go.Proofs.YtdlmgjpnlgdpkaaDoorW.PrintWords Go.Proofs.YtdlmgjpnlgdpkaaDoorW.PrintLast
set_option linter.unusedSimpArgs false
set_option linter.unusedVariables false

def MarkSpoilt.Pure : Prop := ∀ (a0 : Int) (a1 : ByteArray) (a2_0 : Int) (a2_1 : Int), (Lit.int .i64 a0).wf = true → a1.size ≤ 140737488351232 → (Lit.int .i64 a2_0).wf = true → (Lit.int .i64 a2_1).wf = true → ∃ k, posthorselaw03_MarkSpoilt.f k a0 a1 a2_0 a2_1 = some true
/-! ### base -/
theorem dl (s : ByteArray) : s.toList = s.data.toList := Lib.toList_data s
theorem deq {a b : ByteArray} : a = b ↔ a.data.toList = b.data.toList := ⟨fun h => by rw [h], fun h => Go.WideShapes.bytes_inj h⟩
theorem dapp (a b : ByteArray) : (a ++ b).data.toList = a.data.toList ++ b.data.toList := by simp
theorem dlen (a : ByteArray) : a.data.toList.length = a.size := by rw [Array.length_toList]; rfl
theorem w64 {n : Int} (h0 : -9223372036854775808 ≤ n) (h1 : n ≤ 9223372036854775807) : wrap64 n = n := by unfold wrap64; omega
theorem i64b {n : Int} (h : (Lit.int .i64 n).wf = true) : -9223372036854775808 ≤ n ∧ n ≤ 9223372036854775807 := bounds_i64 h
theorem u8w (n : Int) : IntKind.u8.wrap n = n % 256 := IntKind.wrap_u8 n
theorem Ev.all {α : Type} {g : Nat → Option α} {r : α} (h : ∀ k, g k = some r) : Ev g r := ⟨0, fun k _ => h k⟩
theorem Ev.bindS {α β : Type} {g : Nat → Option α} {f : Nat → α → Option β} {a : α} {r : β} (h : Ev g a) (k : Ev (fun n => f n a) r) : Ev (fun n => (g n).bind (f n)) r := Ev.bind h k
theorem Ev.from {α : Type} {g : Nat → Option α} {r : α} (j : Nat) (h : ∀ k, g (k + j) = some r) : Ev g r := ⟨j, fun k hk => by have := h (k - j); rwa [Nat.sub_add_cancel hk] at this⟩
theorem Ev.to {α : Type} {g : Nat → Option α} {r : α} (h : Ev g r) : ∃ k, g k = some r := h.rounds
theorem Ev.at_ {α : Type} {g : Nat → Option α} {r : α} (hg : ∀ k, LeO (g k) (g (k + 1))) {j : Nat} (h : g j = some r) : Ev g r := Ev.of hg h

/-! ### le -/
/-- The bytes of a number, the lowest first. -/
def leB : Nat → Nat → List UInt8
  | 0, _ => []
  | s + 1, n => UInt8.ofNat (n % 256) :: leB s (n / 256)
theorem leB_len : ∀ s n, (leB s n).length = s
  | 0, _ => rfl
  | s + 1, n => by rw [leB, List.length_cons, leB_len s]
/-- .. and back. -/
def unB : List UInt8 → Nat
  | [] => 0
  | b :: r => b.toNat + 256 * unB r
theorem unB_leB : ∀ s n, unB (leB s n) = n % 256 ^ s
  | 0, n => by simp [leB, unB, Nat.mod_one]
  | s + 1, n => by
    rw [leB, unB, unB_leB s]
    have h1 : (UInt8.ofNat (n % 256)).toNat = n % 256 := by simp
    rw [h1, Nat.pow_succ', Nat.mod_mul]
theorem unB_lt : ∀ l : List UInt8, unB l < 256 ^ l.length
  | [] => by simp [unB]
  | b :: r => by
    have := unB_lt r
    have := b.toNat_lt
    rw [unB, List.length_cons, Nat.pow_succ]
    omega
theorem leB_unB : ∀ l : List UInt8, leB l.length (unB l) = l
  | [] => rfl
  | b :: r => by
    have hb := b.toNat_lt
    rw [unB, List.length_cons, leB]
    have h1 : (b.toNat + 256 * unB r) % 256 = b.toNat := by omega
    have h2 : (b.toNat + 256 * unB r) / 256 = unB r := by omega
    rw [h1, h2, leB_unB r]; simp
theorem leB_get : ∀ (s n j : Nat), j < s → (leB s n)[j]? = some (UInt8.ofNat (n / 256 ^ j % 256))
  | s + 1, n, 0, _ => by simp [leB]
  | s + 1, n, j + 1, h => by
    rw [leB, List.getElem?_cons_succ, leB_get s _ j (by omega), Nat.div_div_eq_div_mul, Nat.pow_succ']
/-- What Put answers. -/
def lePutS (n size : Int) : ByteArray := if 1 ≤ size ∧ size ≤ 7 ∧ 0 ≤ n ∧ n < 256 ^ size.toNat then ⟨(leB size.toNat n.toNat).toArray⟩ else ⟨#[]⟩
/-- The row that Put fills, behind i rounds. -/
def leRow (n : Int) (size i : Nat) : List Int := (List.range size).map fun j => if j < i then n / 256 ^ j % 256 else 0
theorem leRow_len (n : Int) (size i : Nat) : (leRow n size i).length = size := by simp [leRow]
theorem leRow_set (n : Int) (size i : Nat) (_ : i < size) : (leRow n size i).set i (n / 256 ^ i % 256) = leRow n size (i + 1) := by
  apply List.ext_getElem
  · simp [leRow]
  · intro j h1 h2
    simp only [leRow, List.length_map, List.length_range, List.length_set] at h1 h2
    rw [List.getElem_set]
    simp only [leRow, List.getElem_map, List.getElem_range]
    by_cases e : i = j
    · subst e; simp
    · rw [if_neg e]
      by_cases hj : j < i
      · rw [if_pos hj, if_pos (by omega)]
      · rw [if_neg hj, if_neg (by omega)]
theorem divcast (m s : Nat) : (m : Int) / 256 ^ s = ((m / 256 ^ s : Nat) : Int) := by
  rw [Int.natCast_ediv]; congr 1
theorem leRow_full (n : Nat) (size : Nat) : Go.strOfNums (leRow n size size) = ⟨(leB size n).toArray⟩ := by
  unfold Go.strOfNums
  congr 2
  apply List.ext_getElem?
  intro j
  by_cases hj : j < size
  · rw [leB_get _ _ _ hj, leRow, List.getElem?_map, List.getElem?_map, List.getElem?_range hj]
    simp only [Option.map_some, if_pos hj]
    have : ((n : Int) / 256 ^ j % 256).toNat = n / 256 ^ j % 256 := by
      have h1 : ((n : Int) / 256 ^ j % 256) = ((n / 256 ^ j % 256 : Nat) : Int) := by rw [divcast]; rfl
      rw [h1, Int.toNat_natCast]
    rw [this]
  · rw [List.getElem?_eq_none (by simp [leRow]; omega), List.getElem?_eq_none (by rw [leB_len]; omega)]
theorem shr_pow (n : Int) (i : Nat) (hi : i ≤ 7) : shr .i64 n (wrap64 (8 * (i : Int))) = n / 256 ^ i := by
  rw [w64 (by omega) (by omega)]
  unfold shr
  have h1 : min (8 * (i : Int)).toNat (IntKind.bits .i64) = 8 * i := by
    have h2 : (8 * (i : Int)).toNat = 8 * i := by omega
    rw [h2]; show min (8 * i) 64 = 8 * i; omega
  rw [h1]
  have h3 : (2 : Int) ^ (8 * i) = 256 ^ i := by
    have h := congrArg (fun x : Nat => (x : Int)) (Nat.pow_mul 2 8 i)
    simp only [Int.natCast_pow] at h
    exact h
  rw [h3]
theorem le_Put_loop (n : Int) (size : Nat) (hs : size ≤ 7) (h0 : 0 ≤ n) : ∀ (d i : Nat), i + d = size → Ev (fun k => le_Put.l0 k n (leRow n size i) (size : Int) (i : Int)) (Go.strOfNums (leRow n size size)) := by
  intro d
  induction d with
  | zero =>
    intro i hi
    obtain rfl : i = size := by omega
    refine Ev.from 1 fun k => ?_
    rw [le_Put.l0, if_neg (by omega)]
  | succ d ih =>
    intro i hi
    refine Ev.step (f := fun k => le_Put.l0 k n (leRow n size (i + 1)) (size : Int) ((i + 1 : Nat) : Int)) (fun k => ?_) (ih (i + 1) (by omega))
    have e1 : wrap64 (8 * (i : Int)) = 8 * (i : Int) := w64 (by omega) (by omega)
    have e2 : wrap64 ((i : Int) + 1) = ((i + 1 : Nat) : Int) := by rw [w64 (by omega) (by omega)]; omega
    rw [le_Put.l0, if_pos (by omega), if_pos (by rw [e1]; omega), if_pos (by omega), if_pos (by rw [leRow_len]; omega), e2, shr_pow n i (by omega), Int.toNat_natCast, leRow_set n size i (by omega)]
theorem le_Put_ev (n size : Int) (hn : (Lit.int .i64 n).wf = true) : Ev (fun k => le_Put.f k n size) (lePutS n size) := by
  have bn := i64b hn
  have bad : ∀ (n size : Int), ¬ (1 ≤ size ∧ size ≤ 7 ∧ 0 ≤ n ∧ n < 256 ^ size.toNat) → Ev (fun k => le_Put.j0 k n size true) (lePutS n size) := by
    intro n size h
    refine Ev.from 1 fun k => ?_
    rw [le_Put.j0, if_pos rfl, lePutS, if_neg h]
  unfold le_Put.f
  by_cases h1 : size < 1
  · simp only [if_pos h1]; exact bad n size (by omega)
  · by_cases h2 : size > 7
    · simp only [if_neg h1, if_pos h2]; exact bad n size (by omega)
    · by_cases h3 : n < 0
      · simp only [if_neg h1, if_neg h2, if_pos h3]; exact bad n size (by omega)
      · obtain ⟨s, rfl⟩ := Int.eq_ofNat_of_zero_le (show 0 ≤ size by omega)
        obtain ⟨m, rfl⟩ := Int.eq_ofNat_of_zero_le (show 0 ≤ n by omega)
        have e1 : wrap64 (8 * (s : Int)) = 8 * (s : Int) := w64 (by omega) (by omega)
        simp only [if_neg h1, if_neg h2, if_neg h3, if_pos (show 0 ≤ wrap64 (8 * (s : Int)) by rw [e1]; omega)]
        rw [shr_pow _ s (by omega)]
        by_cases h4 : m < 256 ^ s
        · have e3 : ((m : Int) / 256 ^ s != 0) = false := by
            rw [divcast, Nat.div_eq_of_lt h4]; rfl
          rw [e3]
          refine Ev.step (f := fun k => le_Put.l0 k (m : Int) (leRow m s 0) (s : Int) ((0 : Nat) : Int)) (fun k => ?_) ?_
          · rw [le_Put.j0, if_neg (by decide), if_pos (by omega), if_pos (by omega)]
            have e4 : (List.replicate (s : Int).toNat 0 : List Int) = leRow m s 0 := by
              rw [Int.toNat_natCast]
              apply List.ext_getElem
              · simp [leRow]
              · intro j h1 h2; simp [leRow]
            simp only [Option.bind_some, e4, leRow_len]
            rfl
          · have := le_Put_loop (m : Int) s (by omega) (by omega) s 0 (by omega)
            rw [leRow_full] at this
            have e5 : lePutS (m : Int) (s : Int) = ⟨(leB s m).toArray⟩ := by
              unfold lePutS
              rw [if_pos ⟨by omega, by omega, by omega, by rw [Int.toNat_natCast]; have h' := Int.ofNat_lt.2 h4; rw [Int.natCast_pow] at h'; exact h'⟩, Int.toNat_natCast, Int.toNat_natCast]
            rw [e5]; exact this
        · have e3 : ((m : Int) / 256 ^ s != 0) = true := by
            rw [divcast, bne_iff_ne]
            have : 0 < m / 256 ^ s := Nat.div_pos (by omega) (Nat.pow_pos (by decide))
            omega
          rw [e3]
          refine bad _ _ ?_
          rw [Int.toNat_natCast]
          intro ⟨_, _, _, h⟩
          have h' : ((m : Nat) : Int) < ((256 ^ s : Nat) : Int) := by rw [Int.natCast_pow]; exact h
          exact h4 (Int.ofNat_lt.1 h')

/-! ### bt -/
theorem bt_at_nat (s : ByteArray) (i : Nat) (h : i < s.data.toList.length) : bt s (i : Int) = ((s.data.toList[i]).toNat : Int) := by
  have h' : i < s.size := by rw [← dlen]; exact h
  unfold bt
  rw [Int.toNat_natCast, dif_pos h', Array.getElem_toList]; rfl

/-! ### mark03 -/
theorem sumOfL_lt (l : List UInt8) : sumOfL l < 4294967296 := by unfold sumOfL; omega
/-- The sum's bytes. -/
def sumB (l : List UInt8) : List UInt8 := leB 4 (sumOfL l)
/-- The head's bytes. -/
def headB (kind : Nat) : List UInt8 := [80, 72, UInt8.ofNat (kind % 256), 0]
theorem wf_of {n : Int} (h0 : -9223372036854775808 ≤ n) (h1 : n ≤ 9223372036854775807) : (Lit.int .i64 n).wf = true := by
  have := wrap64_wf n
  rwa [w64 h0 h1] at this
theorem sumOf_ev (s : ByteArray) (hs : s.size ≤ 140737488355328) : Ev (fun k => mark_sumOf.f k s) ⟨(sumB s.data.toList).toArray⟩ := by
  have h := sumOfL_lt s.data.toList
  unfold mark_sumOf.f mark_Sum.f
  rw [if_pos hs]
  refine Ev.bind (Ev.now _) ?_
  rw [w64 (by omega) (by omega)]
  have e : lePutS (sumOfL s.data.toList : Int) 4 = ⟨(sumB s.data.toList).toArray⟩ := by
    unfold lePutS sumB
    rw [if_pos ⟨by omega, by omega, by omega, by show (sumOfL s.data.toList : Int) < 256 ^ 4; omega⟩]; rfl
  rw [← e]
  refine Ev.bind (le_Put_ev _ 4 (wf_of (by omega) (by omega))) (Ev.now _)
theorem head_ev (kind : Int) (h1 : 1 ≤ kind) (h2 : kind ≤ 255) : Ev (fun k => mark_head.f k kind) ⟨(headB kind.toNat).toArray⟩ := by
  have e : lePutS kind 1 = ⟨#[UInt8.ofNat (kind.toNat % 256)]⟩ := by
    unfold lePutS
    rw [if_pos ⟨by omega, by omega, by omega, by show kind < 256 ^ 1; omega⟩]; rfl
  unfold mark_head.f
  refine Ev.bind (le_Put_ev kind 1 (wf_of (by omega) (by omega))) ?_
  rw [e]
  have es : (⟨#[UInt8.ofNat (kind.toNat % 256)]⟩ : ByteArray).size = 1 := rfl
  rw [if_pos (by rw [es]; decide), if_pos (by rw [ByteArray.size_append, es]; decide)]
  have e2 : (⟨#[80, 72]⟩ : ByteArray) ++ ⟨#[UInt8.ofNat (kind.toNat % 256)]⟩ ++ ⟨#[0]⟩ = ⟨(headB kind.toNat).toArray⟩ := by
    rw [deq]; simp [dapp, headB]
  rw [e2]; exact Ev.now _
theorem repeat_zero (c : Int) (h0 : 0 ≤ c) (h1 : c ≤ 140737488355328) : strings_Repeat.f ⟨#[0]⟩ c = some (zerosB c.toNat) := by
  unfold strings_Repeat.f
  rw [if_pos ⟨h0, by show ((1 : Nat) : Int) * c ≤ _; omega, by omega⟩, show (⟨#[0]⟩ : ByteArray).data.toList = [0] from rfl, repeat0]; rfl
/-- What is summed. -/
def bodyL (kind : Nat) (body : List UInt8) : List UInt8 := headB kind ++ body ++ List.replicate (504 - body.length) 0
/-- A sealed sector. -/
def sealL (kind : Nat) (body : List UInt8) : List UInt8 := bodyL kind body ++ sumB (bodyL kind body)
/-- What Seal answers. -/
def sealS (kind : Int) (body : ByteArray) : ByteArray × Option Int := if kind < 1 ∨ kind > 255 then (⟨#[]⟩, some 1) else if body.size > 504 then (⟨#[]⟩, some 10) else (⟨(sealL kind.toNat body.data.toList).toArray⟩, none)
theorem bodyL_len (kind : Nat) (body : List UInt8) (h : body.length ≤ 504) : (bodyL kind body).length = 508 := by
  simp [bodyL, headB]; omega
theorem sealL_len (kind : Nat) (body : List UInt8) (h : body.length ≤ 504) : (sealL kind body).length = 512 := by
  unfold sealL
  rw [List.length_append, bodyL_len kind body h]; rfl
theorem mark_Seal_ev (kind : Int) (body : ByteArray) : Ev (fun k => mark_Seal.f k kind body) (sealS kind body) := by
  have bad : kind < 1 ∨ kind > 255 → Ev (fun k => mark_Seal.j0 k kind body true) (sealS kind body) := fun h => by
    refine Ev.from 1 fun k => ?_
    rw [mark_Seal.j0, if_pos rfl, sealS, if_pos h]
  unfold mark_Seal.f
  by_cases h1 : kind < 1
  · simp only [if_pos h1]; exact bad (.inl h1)
  · simp only [if_neg h1]
    by_cases h2 : kind > 255
    · rw [decide_eq_true h2]; exact bad (.inr h2)
    · rw [decide_eq_false h2]
      unfold sealS
      rw [if_neg (by omega)]
      refine Ev.step (fun k => by rw [mark_Seal.j0, if_neg (by decide)]) ?_
      by_cases h3 : body.size > 504
      · simp only [if_pos (show (body.size : Int) > 504 by omega), if_pos h3]; exact Ev.now _
      · simp only [if_neg (show ¬ (body.size : Int) > 504 by omega), if_neg h3]
        have hs1 : (⟨(headB kind.toNat).toArray⟩ : ByteArray).size = 4 := rfl
        refine Ev.bind (head_ev kind (by omega) (by omega)) ?_
        simp only [if_pos (show (⟨(headB kind.toNat).toArray⟩ : ByteArray).size + body.size ≤ 9223372036854775807 by rw [hs1]; omega)]
        rw [w64 (by omega) (by omega), repeat_zero _ (by omega) (by omega)]
        refine Ev.bind (Ev.now _) ?_
        have hz : (zerosB (504 - (body.size : Int)).toNat).size = 504 - body.size := by rw [zerosB_size]; omega
        have e : (⟨(headB kind.toNat).toArray⟩ : ByteArray) ++ body ++ zerosB (504 - (body.size : Int)).toNat = ⟨(bodyL kind.toNat body.data.toList).toArray⟩ := by
          rw [deq, dapp, dapp]
          show headB kind.toNat ++ body.data.toList ++ List.replicate (504 - (body.size : Int)).toNat 0 = bodyL kind.toNat body.data.toList
          unfold bodyL
          rw [dlen, show (504 - (body.size : Int)).toNat = 504 - body.size by omega]
        have es : (⟨(bodyL kind.toNat body.data.toList).toArray⟩ : ByteArray).size = 508 := by
          rw [← dlen]; exact bodyL_len _ _ (by rw [dlen]; omega)
        simp only [if_pos (show ((⟨(headB kind.toNat).toArray⟩ : ByteArray) ++ body).size + (zerosB (504 - (body.size : Int)).toNat).size ≤ 9223372036854775807 by rw [ByteArray.size_append, hs1, hz]; omega)]
        rw [e]
        refine Ev.bind (sumOf_ev _ (by rw [es]; decide)) ?_
        have e4 : ∀ l : List UInt8, (⟨(sumB l).toArray⟩ : ByteArray).size = 4 := fun l => rfl
        simp only [if_pos (show (⟨(bodyL kind.toNat body.data.toList).toArray⟩ : ByteArray).size + (⟨(sumB (bodyL kind.toNat body.data.toList)).toArray⟩ : ByteArray).size ≤ 9223372036854775807 by rw [es, e4]; decide)]
        have e5 : (⟨(bodyL kind.toNat body.data.toList).toArray⟩ : ByteArray) ++ ⟨(sumB (bodyL kind.toNat body.data.toList)).toArray⟩ = ⟨(sealL kind.toNat body.data.toList).toArray⟩ := by
          rw [deq, dapp]; rfl
        rw [e5]; exact Ev.now _
/-- What Open answers. -/
def openS (kind : Int) (l : List UInt8) : ByteArray × Option Int := if l.length = 512 ∧ 1 ≤ kind ∧ kind ≤ 255 ∧ l.take 4 = headB kind.toNat then (if l.drop 508 = sumB (l.take 508) then (⟨((l.take 508).drop 4).toArray⟩, none) else (⟨#[]⟩, some 5)) else (⟨#[]⟩, some 4)
theorem ext_list (s : ByteArray) (a b : Nat) : (s.extract a b).data.toList = (s.data.toList.take b).drop a := by
  rw [ByteArray.data_extract, Array.toList_extract, List.extract_eq_drop_take', List.drop_take]
theorem mark_Open_ev (kind : Int) (s : ByteArray) : Ev (fun k => mark_Open.f k kind s) (openS kind s.data.toList) := by
  have bad : ¬ (s.data.toList.length = 512 ∧ 1 ≤ kind ∧ kind ≤ 255 ∧ s.data.toList.take 4 = headB kind.toNat) → Ev (fun k => mark_Open.j0 k s true) (openS kind s.data.toList) := fun h => by
    refine Ev.from 1 fun k => ?_
    rw [mark_Open.j0, if_pos rfl, openS, if_neg h]
  have hl := dlen s
  unfold mark_Open.f
  by_cases h0 : s.size = 512
  · simp only [if_pos (show (s.size : Int) = 512 by omega)]
    by_cases h1 : kind < 1
    · simp only [if_pos h1]; exact bad (by omega)
    · by_cases h2 : kind > 255
      · simp only [if_neg h1, if_pos h2]; exact bad (by omega)
      · simp only [if_neg h1, if_neg h2]
        simp only [if_pos (show (0 : Int) ≤ 4 by decide), if_pos (show 4 ≤ (s.size : Int) by omega)]
        refine Ev.bind (head_ev kind (by omega) (by omega)) ?_
        have e4 : (s.extract 0 4).toList = s.data.toList.take 4 := by rw [dl, ext_list, List.drop_zero]
        have e4' : ByteArray.toList ⟨(headB kind.toNat).toArray⟩ = headB kind.toNat := by rw [dl]
        rw [e4, e4']
        by_cases h3 : s.data.toList.take 4 = headB kind.toNat
        · rw [h3, bne_self_eq_false]
          refine Ev.step (fun k => by rw [mark_Open.j0, if_neg (by decide), if_pos (by omega), if_pos (by decide)]) ?_
          refine Ev.bind (sumOf_ev (s.extract 0 508) (by rw [ByteArray.size_extract]; omega)) ?_
          have e5 : (s.extract 508 s.size).toList = s.data.toList.drop 508 := by rw [dl, ext_list, List.take_of_length_le (by rw [dlen]; omega)]
          have e6 : (s.extract 0 508).data.toList = s.data.toList.take 508 := by rw [ext_list, List.drop_zero]
          have e7 : ∀ l : List UInt8, ByteArray.toList ⟨(sumB l).toArray⟩ = sumB l := fun l => by rw [dl]
          rw [e5, e6, e7]
          have hc : s.data.toList.length = 512 ∧ 1 ≤ kind ∧ kind ≤ 255 ∧ s.data.toList.take 4 = headB kind.toNat := ⟨by omega, by omega, by omega, h3⟩
          have e8 : s.extract 4 508 = ⟨((s.data.toList.take 508).drop 4).toArray⟩ := by rw [deq, ext_list]
          by_cases h4 : s.data.toList.drop 508 = sumB (s.data.toList.take 508)
          · have eo : openS kind s.data.toList = (⟨((s.data.toList.take 508).drop 4).toArray⟩, none) := by unfold openS; rw [if_pos hc, if_pos h4]
            rw [eo]
            refine Ev.from 0 fun k => ?_
            rw [if_pos h4, if_pos (by decide), e8]
          · have eo : openS kind s.data.toList = (⟨#[]⟩, some 5) := by unfold openS; rw [if_pos hc, if_neg h4]
            rw [eo]
            refine Ev.from 0 fun k => ?_
            rw [if_neg h4]
        · have : (s.data.toList.take 4 != headB kind.toNat) = true := by simpa using h3
          rw [this]
          exact bad (fun h => h3 h.2.2.2)
  · simp only [if_neg (show ¬ (s.size : Int) = 512 by omega)]; exact bad (by omega)
/-- What is sealed opens as that. -/
theorem open_seal (kind : Int) (body : List UInt8) (h1 : 1 ≤ kind) (h2 : kind ≤ 255) (hb : body.length ≤ 504) : openS kind (sealL kind.toNat body) = (⟨(body ++ List.replicate (504 - body.length) 0).toArray⟩, none) := by
  have hbl := bodyL_len kind.toNat body hb
  have t508 : (sealL kind.toNat body).take 508 = bodyL kind.toNat body := by
    unfold sealL
    rw [List.take_append_of_le_length (by omega), List.take_of_length_le (by omega)]
  have d508 : (sealL kind.toNat body).drop 508 = sumB (bodyL kind.toNat body) := by
    unfold sealL
    rw [← hbl, List.drop_left]
  have t4 : (sealL kind.toNat body).take 4 = headB kind.toNat := rfl
  unfold openS
  rw [if_pos ⟨sealL_len _ _ hb, h1, h2, t4⟩, t508, d508, if_pos rfl]
  rfl
/-- What Kind answers. -/
def kindS (l : List UInt8) : Int := if l.length = 512 then (if (openS ((l.getD 2 0).toNat : Int) l).2.isNone = true then ((l.getD 2 0).toNat : Int) else 0) else 0
theorem mark_Kind_ev (s : ByteArray) : Ev (fun k => mark_Kind.f k s) (kindS s.data.toList) := by
  have hl := dlen s
  unfold mark_Kind.f kindS
  by_cases h0 : s.size = 512
  · simp only [if_pos (show (s.size : Int) = 512 by omega), if_pos (show 2 < (s.size : Int) by omega)]
    rw [if_pos (by omega)]
    have hil : 2 < s.data.toList.length := by omega
    have e : bt s 2 = ((s.data.toList.getD 2 0).toNat : Int) := by
      have := bt_at_nat s 2 hil
      rw [show ((2 : Nat) : Int) = 2 from rfl] at this
      rw [this, List.getD_eq_getElem?_getD, List.getElem?_eq_getElem hil]; rfl
    have hb := (s.data.toList.getD 2 0).toNat_lt
    rw [e, w64 (by omega) (by omega)]
    refine Ev.bind (mark_Open_ev _ s) ?_
    by_cases h : (openS ((s.data.toList.getD 2 0).toNat : Int) s.data.toList).2.isNone = true
    · simp only [if_pos h]; exact Ev.now _
    · simp only [if_neg h]; exact Ev.now _
  · simp only [if_neg (show ¬ (s.size : Int) = 512 by omega)]
    rw [if_neg (by omega)]; exact Ev.now _
theorem kind_seal (kind : Int) (body : List UInt8) (h1 : 1 ≤ kind) (h2 : kind ≤ 255) (hb : body.length ≤ 504) : kindS (sealL kind.toNat body) = kind := by
  have e : ((sealL kind.toNat body).getD 2 0).toNat = kind.toNat := by
    show (UInt8.ofNat (kind.toNat % 256)).toNat = kind.toNat
    simp; omega
  unfold kindS
  rw [if_pos (sealL_len _ _ hb), e, show ((kind.toNat : Nat) : Int) = kind by omega, open_seal kind body h1 h2 hb]; rfl
theorem speaks_facts : ∃ (X R : List UInt8), X.length = 512 ∧ R.length = 502 ∧ sealS 8 ⟨#[97, 98]⟩ = (⟨X.toArray⟩, none) ∧ openS 8 X = (⟨(([97, 98] : List UInt8) ++ R).toArray⟩, none) ∧ kindS X = 8 :=
  ⟨sealL 8 [97, 98], List.replicate 502 0, sealL_len 8 [97, 98] (by decide), List.length_replicate, rfl, open_seal 8 [97, 98] (by decide) (by decide) (by decide), kind_seal 8 [97, 98] (by decide) (by decide) (by decide)⟩
theorem speaks_ev : Ev (fun k => posthorselaw03_speaks.f k) true := by
  obtain ⟨X, R, hX, hR, hs, ho, hk⟩ := speaks_facts
  unfold posthorselaw03_speaks.f
  refine Ev.bind (mark_Seal_ev 8 ⟨#[97, 98]⟩) ?_
  rw [hs]
  refine Ev.bind (mark_Open_ev 8 _) ?_
  have eX : (⟨X.toArray⟩ : ByteArray).data.toList = X := rfl
  rw [eX, ho]
  have hsum : mark_Sum.f ⟨#[49, 50, 51, 52, 53, 54, 55, 56, 57]⟩ = some 3808858755 := by decide +kernel
  rw [hsum]
  refine Ev.bind (Ev.now _) ?_
  simp only [if_true]
  have e1 : (⟨X.toArray⟩ : ByteArray).size = 512 := by rw [← dlen]; exact hX
  have e2 : (⟨(([97, 98] : List UInt8) ++ R).toArray⟩ : ByteArray).size = 504 := by
    rw [← dlen]
    show (([97, 98] : List UInt8) ++ R).length = 504
    rw [List.length_append, hR]; rfl
  have e3 : (ByteArray.extract ⟨(([97, 98] : List UInt8) ++ R).toArray⟩ 0 2).toList = ([97, 98] : List UInt8) := by
    rw [dl, ext_list]; rfl
  rw [e1, e2]
  simp only [Option.isNone_none, if_true, if_pos (show ((512 : Nat) : Int) = 512 from rfl), if_pos (show ((504 : Nat) : Int) = 504 from rfl), if_pos (show (0 : Int) ≤ 2 by decide), if_pos (show (2 : Int) ≤ ((504 : Nat) : Int) by decide), if_pos e3]
  refine Ev.bind (mark_Kind_ev _) ?_
  rw [eX, hk]
  simp only [beq_self_eq_true]
  exact Ev.now _

/-! ### lf03 -/
/-- One bit of the register. -/
def lf (x : Nat) : Nat := x / 2 ^^^ (if x % 2 = 1 then 2197175160 else 0)
def lfs : Nat → Nat → Nat
  | 0, x => x
  | d + 1, x => lfs d (lf x)
theorem lf_xor (x y : Nat) : lf (x ^^^ y) = lf x ^^^ lf y := by
  unfold lf
  rw [Nat.xor_div_two]
  have hm : (x ^^^ y) % 2 = (x % 2 + y % 2) % 2 := by
    have h := Nat.testBit_xor x y 0
    simp only [Nat.testBit_zero] at h
    rcases Nat.mod_two_eq_zero_or_one x with hx | hx <;> rcases Nat.mod_two_eq_zero_or_one y with hy | hy <;> rcases Nat.mod_two_eq_zero_or_one (x ^^^ y) with hz | hz <;> simp_all
  have e : ∀ a b p : Nat, a ^^^ p ^^^ (b ^^^ p) = a ^^^ b := fun a b p => by
    rw [Nat.xor_assoc, ← Nat.xor_assoc p b p, Nat.xor_comm p b, Nat.xor_assoc b p p, Nat.xor_self, Nat.xor_zero]
  have e2 : ∀ a b p : Nat, a ^^^ b ^^^ p = a ^^^ p ^^^ b := fun a b p => by rw [Nat.xor_assoc, Nat.xor_comm b, ← Nat.xor_assoc]
  rcases Nat.mod_two_eq_zero_or_one x with hx | hx <;> rcases Nat.mod_two_eq_zero_or_one y with hy | hy
  · rw [if_neg (by omega), if_neg (by omega), if_neg (by omega), Nat.xor_zero, Nat.xor_zero, Nat.xor_zero]
  · rw [if_pos (by omega), if_neg (by omega), if_pos (by omega), Nat.xor_zero, Nat.xor_assoc]
  · rw [if_pos (by omega), if_pos (by omega), if_neg (by omega), Nat.xor_zero, e2]
  · rw [if_neg (by omega), if_pos (by omega), if_pos (by omega), Nat.xor_zero, e]
theorem lfs_xor : ∀ d x y, lfs d (x ^^^ y) = lfs d x ^^^ lfs d y
  | 0, _, _ => rfl
  | d + 1, x, y => by rw [lfs, lfs, lfs, lf_xor, lfs_xor d]
theorem lf_two (q : Nat) : lf (2 * q) = q := by
  unfold lf
  rw [if_neg (by omega), Nat.xor_zero]; omega
theorem lfs4 (q : Nat) : lfs 4 (16 * q) = q := by
  show lf (lf (lf (lf (16 * q)))) = q
  rw [show 16 * q = 2 * (2 * (2 * (2 * q))) by omega, lf_two, lf_two, lf_two, lf_two]
theorem split16 (x : Nat) : x = (16 * (x / 16)) ^^^ (x % 16) := by
  have h := Nat.shiftLeft_add_eq_or_of_lt (show x % 16 < 2 ^ 4 by omega) (x / 16)
  have hd : (x / 16) <<< 4 &&& (x % 16) = 0 := by
    apply Nat.eq_of_testBit_eq
    intro i
    rw [Nat.testBit_and, Nat.zero_testBit, Nat.testBit_shiftLeft]
    by_cases hi : i ≥ 4
    · have : (x % 16).testBit i = false := Nat.testBit_lt_two_pow (Nat.lt_of_lt_of_le (show x % 16 < 2 ^ 4 by omega) (Nat.pow_le_pow_right (by decide) hi))
      rw [this, Bool.and_false]
    · simp [hi]
  have hx : (x / 16) <<< 4 ^^^ (x % 16) = (x / 16) <<< 4 ||| (x % 16) := by
    apply Nat.eq_of_testBit_eq
    intro i
    have h2 := congrArg (fun n => n.testBit i) hd
    simp only [Nat.testBit_and, Nat.zero_testBit] at h2
    rw [Nat.testBit_xor, Nat.testBit_or]
    cases h3 : ((x / 16) <<< 4).testBit i <;> cases h4 : (x % 16).testBit i <;> simp_all
  rw [Nat.shiftLeft_eq] at h hx
  rw [show 16 * (x / 16) = x / 16 * 2 ^ 4 by omega, hx, ← h]; omega
theorem nib_lfs (x : Nat) : nibStep x = lfs 4 x := by
  have h : ∀ i : Fin 16, lfs 4 i.val = nibs.getD i.val 0 := by decide +kernel
  have h2 : lfs 4 (x % 16) = nibs.getD (x % 16) 0 := h ⟨x % 16, Nat.mod_lt _ (by decide)⟩
  unfold nibStep
  rw [← h2]
  have h3 := congrArg (lfs 4) (split16 x)
  rw [lfs_xor, lfs4] at h3
  exact h3.symm
theorem sum_lfs (r b : Nat) : sumStep r b = lfs 8 (r ^^^ b) := by
  unfold sumStep
  rw [nib_lfs, nib_lfs]; rfl

/-! ### burst03 -/
theorem xor_zero_eq {a b : Nat} (h : a ^^^ b = 0) : a = b := by
  have h1 := congrArg (fun n => n ^^^ b) h
  simp only [Nat.xor_assoc, Nat.xor_self, Nat.xor_zero, Nat.zero_xor] at h1
  exact h1
/-- The register behind some bytes, from any register on. -/
def runL (r : Nat) (l : List UInt8) : Nat := l.foldl (fun r b => sumStep r b.toNat) r
theorem lfs_add : ∀ a b x, lfs (a + b) x = lfs b (lfs a x)
  | 0, b, x => by rw [Nat.zero_add, lfs]
  | a + 1, b, x => by rw [show a + 1 + b = (a + b) + 1 by omega, lfs, lfs, lfs_add a b]
theorem lfs8 (q : Nat) : lfs 8 (256 * q) = q := by
  rw [show (8 : Nat) = 4 + 4 from rfl, lfs_add, show 256 * q = 16 * (16 * q) by omega, lfs4, lfs4]
theorem lf_zero {y : Nat} (h : y < 4294967296) (e : lf y = 0) : y = 0 := by
  unfold lf at e
  rcases Nat.mod_two_eq_zero_or_one y with hy | hy
  · rw [if_neg (by omega), Nat.xor_zero] at e; omega
  · rw [if_pos hy] at e
    have := xor_zero_eq e
    omega
theorem lf_lt {y : Nat} (h : y < 4294967296) : lf y < 4294967296 := by
  unfold lf
  exact xor_lt32 (by omega) (by split <;> decide)
theorem lfs_zero_of : ∀ d y, y < 4294967296 → lfs d y = 0 → y = 0
  | 0, _, _, e => e
  | d + 1, y, h, e => lf_zero h (lfs_zero_of d (lf y) (lf_lt h) e)
theorem xor_256 (b u : Nat) (hb : b < 256) : b + 256 * u = b ^^^ 256 * u := by
  have h := Nat.two_pow_add_eq_or_of_lt (i := 8) (b := b) hb u
  have hd : (2 ^ 8 * u) &&& b = 0 := by
    apply Nat.eq_of_testBit_eq
    intro i
    rw [Nat.testBit_and, Nat.zero_testBit, Nat.testBit_two_pow_mul]
    by_cases hi : i ≥ 8
    · have : b.testBit i = false := Nat.testBit_lt_two_pow (Nat.lt_of_lt_of_le (show b < 2 ^ 8 from hb) (Nat.pow_le_pow_right (by decide) hi))
      rw [this, Bool.and_false]
    · simp [hi]
  have hx : (2 ^ 8 * u) ^^^ b = (2 ^ 8 * u) ||| b := by
    apply Nat.eq_of_testBit_eq
    intro i
    have h2 := congrArg (fun n => n.testBit i) hd
    simp only [Nat.testBit_and, Nat.zero_testBit] at h2
    rw [Nat.testBit_xor, Nat.testBit_or]
    cases h3 : (2 ^ 8 * u).testBit i <;> cases h4 : b.testBit i <;> simp_all
  rw [show (256 : Nat) = 2 ^ 8 from rfl, Nat.xor_comm, hx, ← h, Nat.add_comm]
/-- All bytes at once. -/
theorem run_eq : ∀ (l : List UInt8) (r : Nat), runL r l = lfs (8 * l.length) (r ^^^ unB l)
  | [], r => by show r = lfs 0 (r ^^^ 0); rw [Nat.xor_zero]; rfl
  | b :: l, r => by
    have h := run_eq l (sumStep r b.toNat)
    show runL (sumStep r b.toNat) l = _
    rw [h, sum_lfs, unB, xor_256 _ _ b.toNat_lt, ← Nat.xor_assoc, List.length_cons, show 8 * (l.length + 1) = 8 + 8 * l.length by omega, lfs_add, lfs_xor 8 (r ^^^ b.toNat), lfs8]
theorem run_app (r : Nat) (a b : List UInt8) : runL r (a ++ b) = runL (runL r a) b := List.foldl_append
theorem unB_inj : ∀ {a b : List UInt8}, a.length = b.length → unB a = unB b → a = b := fun {a b} hl h => by
  rw [← leB_unB a, ← leB_unB b, hl, h]
/-- A run of up to four bytes that isn't the same leaves another register, whatever comes behind. -/
theorem burst {r : Nat} {p x y q : List UInt8} (hxy : x.length = y.length) (h4 : x.length ≤ 4) (h : runL r (p ++ x ++ q) = runL r (p ++ y ++ q)) : x = y := by
  rw [run_app, run_app, run_app, run_app] at h
  generalize runL r p = R at h
  rw [run_eq q, run_eq q, run_eq x, run_eq y, hxy] at h
  have h1 := congrArg (fun n => n ^^^ lfs (8 * q.length) (lfs (8 * y.length) (R ^^^ unB y) ^^^ unB q)) h
  simp only [Nat.xor_self] at h1
  rw [← lfs_xor] at h1
  have e : ∀ a b c : Nat, (a ^^^ c) ^^^ (b ^^^ c) = a ^^^ b := fun a b c => by
    rw [Nat.xor_assoc, ← Nat.xor_assoc c b c, Nat.xor_comm c b, Nat.xor_assoc b c c, Nat.xor_self, Nat.xor_zero]
  have e' : ∀ a b c : Nat, (c ^^^ a) ^^^ (c ^^^ b) = a ^^^ b := fun a b c => by rw [Nat.xor_comm c a, Nat.xor_comm c b, e]
  rw [e, ← lfs_xor, e', ← lfs_add] at h1
  have bx := unB_lt x
  have by_ := unB_lt y
  have p4 : 256 ^ y.length ≤ 256 ^ 4 := Nat.pow_le_pow_right (by decide) (by omega)
  rw [hxy] at bx
  have hz := lfs_zero_of _ _ (xor_lt32 (by omega) (by omega)) h1
  exact unB_inj hxy (xor_zero_eq hz)
/-- Is the sum behind a sector its sum? -/
def validL (l : List UInt8) : Prop := l.drop 508 = sumB (l.take 508)
theorem sum_xor (l : List UInt8) : sumOfL l = sumReg l ^^^ 4294967295 := by
  have h := sumReg_lt l
  unfold sumOfL
  generalize sumReg l = a at h
  have h1 : (BitVec.allOnes 32 ^^^ BitVec.ofNat 32 a).toNat = 4294967295 - a := by
    rw [BitVec.allOnes_xor, BitVec.toNat_not, BitVec.toNat_ofNat, Nat.mod_eq_of_lt (by omega)]
  rw [BitVec.toNat_xor, BitVec.toNat_ofNat, Nat.mod_eq_of_lt (show a < 2 ^ 32 by omega)] at h1
  rw [Nat.xor_comm, ← h1]; rfl
theorem valid_run {l : List UInt8} (h : validL l) : runL 4294967295 l = lfs 32 4294967295 := by
  have e : l = l.take 508 ++ sumB (l.take 508) := by rw [← h, List.take_append_drop]
  rw [e, run_app, run_eq (sumB _)]
  have e1 : (sumB (l.take 508)).length = 4 := rfl
  have e2 : unB (sumB (l.take 508)) = sumReg (l.take 508) ^^^ 4294967295 := by
    unfold sumB
    rw [unB_leB, sum_xor, Nat.mod_eq_of_lt (xor_lt32 (sumReg_lt _) (by decide))]
  rw [e1, e2, show runL 4294967295 (l.take 508) = sumReg (l.take 508) from rfl, ← Nat.xor_assoc, Nat.xor_self, Nat.zero_xor]

/-! ### cut03 -/
theorem and127 (a : Int) : Go.bits .and .i64 a 127 = a % 128 := by
  have ha : (BitVec.ofInt 64 a).toNat = (a % 18446744073709551616).toNat := by
    rw [BitVec.toNat_ofInt]; rfl
  show IntKind.i64.wrap ((BitVec.ofInt 64 a &&& BitVec.ofInt 64 ((127 : Nat) : Int)).toNat : Int) = _
  rw [BitVec.toNat_and, show (BitVec.ofInt 64 ((127 : Nat) : Int)).toNat = 127 by decide, ha, show (a % 18446744073709551616).toNat &&& 127 = (a % 18446744073709551616).toNat % 128 from Nat.and_two_pow_sub_one_eq_mod _ 7, IntKind.wrap_i64]
  omega
theorem cut_size (s : ByteArray) : (s.extract 0 (mn (s.size : Int) 504).toNat).size ≤ 504 ∧ 0 ≤ mn (s.size : Int) 504 ∧ mn (s.size : Int) 504 ≤ (s.size : Int) := by
  have h : 0 ≤ mn (s.size : Int) 504 ∧ mn (s.size : Int) 504 ≤ (s.size : Int) ∧ mn (s.size : Int) 504 ≤ 504 := by
    unfold mn
    split <;> omega
  exact ⟨by rw [ByteArray.size_extract]; omega, h.1, h.2.1⟩
theorem seal_ok (kind : Int) (s : ByteArray) (h1 : 1 ≤ kind) (h2 : kind ≤ 255) (hs : s.size ≤ 504) : sealS kind s = (⟨(sealL kind.toNat s.data.toList).toArray⟩, none) := by
  unfold sealS
  rw [if_neg (by omega), if_neg (by omega)]

/-! ### MarkSpoilt -/
theorem spoil_take (p : Nat) (h : Int) (l : List UInt8) : ∀ i, (spoilB p h l i).take p = l.take p
  | 0 => rfl
  | i + 1 => by rw [spoilB, List.take_set_of_le (by omega), spoil_take p h l i]
theorem spoil_drop (p : Nat) (h : Int) (l : List UInt8) : ∀ i j, i ≤ j → (spoilB p h l i).drop (p + j) = l.drop (p + j)
  | 0, _, _ => rfl
  | i + 1, j, hj => by rw [spoilB, List.drop_set_of_lt (by omega), spoil_drop p h l i j (by omega)]
theorem spoil_same (p : Nat) (h : Int) (l : List UInt8) : ∀ i, p + i ≤ l.length → spoilC h i = false → spoilB p h l i = l
  | 0, _, _ => rfl
  | i + 1, hi, hc => by
    rw [spoilC, Bool.or_eq_false_iff] at hc
    have ih := spoil_same p h l i (by omega) hc.1
    have hx : spoilX h i = 0 := by simpa using hc.2
    rw [spoilB, ih, hx]
    apply List.ext_getElem
    · rw [List.length_set]
    · intro j h1 h2
      rw [List.getElem_set]
      split
      · rename_i e
        subst e
        rw [List.getD_eq_getElem?_getD, List.getElem?_eq_getElem h2]; simp
      · rfl
theorem xor_same {a b : UInt8} (h : a ^^^ b = a) : b = 0 := by
  have h1 : a ^^^ (a ^^^ b) = a ^^^ a := by rw [h]
  rw [← UInt8.xor_assoc, UInt8.xor_self, UInt8.zero_xor] at h1
  exact h1
theorem spoil_none (p : Nat) (h : Int) (l : List UInt8) : ∀ i, p + i ≤ l.length → spoilB p h l i = l → spoilC h i = false
  | 0, _, _ => rfl
  | i + 1, hi, he => by
    have hb : spoilB p h l i = l := by
      have h1 : (spoilB p h l i).take (p + i) = l.take (p + i) := by
        have := congrArg (fun x => x.take (p + i)) he
        rw [spoilB] at this
        simpa [List.take_set_of_le] using this
      rw [← List.take_append_drop (p + i) (spoilB p h l i), h1, spoil_drop p h l i i (Nat.le_refl _), List.take_append_drop]
    have ih := spoil_none p h l i (by omega) hb
    rw [spoilB, hb] at he
    have hlt : p + i < l.length := by omega
    have hg := congrArg (fun x => x.getD (p + i) 0) he
    simp only [List.getD_eq_getElem?_getD, List.getElem?_set_self hlt, List.getElem?_eq_getElem hlt, Option.getD_some] at hg
    have hx := congrArg UInt8.toNat (xor_same hg)
    have h0 : 0 ≤ spoilX h i ∧ spoilX h i < 256 := by unfold spoilX; omega
    rw [UInt8.toNat_ofNat', Nat.mod_eq_of_lt (by omega)] at hx
    have hz : spoilX h i = 0 := by
      have : (spoilX h i).toNat = 0 := hx
      omega
    rw [spoilC, ih, hz]; rfl
theorem open_valid {kind : Int} {l : List UInt8} (h : (openS kind l).2 = none) : validL l := by
  unfold openS at h
  split at h
  · split at h
    · rename_i h4; exact h4
    · cases h
  · cases h
theorem seal_valid (kind : Int) (body : List UInt8) (h1 : 1 ≤ kind) (h2 : kind ≤ 255) (hb : body.length ≤ 504) : validL (sealL kind.toNat body) := by
  refine open_valid (kind := kind) ?_
  rw [open_seal kind body h1 h2 hb]
theorem spoil_open (kind : Int) (l : List UInt8) (p : Nat) (h : Int) (hl : l.length = 512) (hp : p < 512) (hv : validL l) (hc : spoilC h (spoilN p) = true) : (openS kind (spoilB p h l (spoilN p))).2 ≠ none := by
  intro hn
  have hN : spoilN p ≤ 4 ∧ p + spoilN p ≤ 512 := by unfold spoilN; omega
  have h1 := valid_run (open_valid hn)
  have h2 := valid_run hv
  have hlen := spoilB_len p h l (spoilN p)
  have e1 : l = l.take p ++ (l.drop p).take (spoilN p) ++ l.drop (p + spoilN p) := by
    rw [List.append_assoc, ← List.drop_drop, List.take_append_drop, List.take_append_drop]
  have e2 : spoilB p h l (spoilN p) = l.take p ++ ((spoilB p h l (spoilN p)).drop p).take (spoilN p) ++ l.drop (p + spoilN p) := by
    have := List.take_append_drop p (spoilB p h l (spoilN p))
    rw [spoil_take] at this
    rw [← spoil_drop p h l (spoilN p) (spoilN p) (Nat.le_refl _), List.append_assoc, ← List.drop_drop, List.take_append_drop, this]
  rw [e2] at h1
  have h3 : runL 4294967295 (l.take p ++ (l.drop p).take (spoilN p) ++ l.drop (p + spoilN p)) = lfs 32 4294967295 := by rw [← e1]; exact h2
  have h4 := burst (by rw [List.length_take, List.length_take, List.length_drop, List.length_drop, hlen]) (by rw [List.length_take, List.length_drop]; omega) (h3.trans h1.symm)
  have h5 : spoilB p h l (spoilN p) = l := by rw [e2, ← h4, ← e1]
  have h6 := spoil_none p h l (spoilN p) (by omega) h5
  rw [hc] at h6; cases h6
theorem MarkSpoilt : MarkSpoilt.Pure := by
  intro a0 body h0 h1 _ _ _ _
  refine Ev.rounds (g := fun k => posthorselaw03_MarkSpoilt.f k a0 body h0 h1) ?_
  unfold posthorselaw03_MarkSpoilt.f
  refine Ev.bind speaks_ev ?_
  simp only [if_true]
  have hk : wrap64 (1 + Go.bits .and .i64 a0 127) = 1 + a0 % 128 := by rw [and127, w64 (by omega) (by omega)]
  rw [hk]
  have kb1 : 1 ≤ 1 + a0 % 128 := by omega
  have kb2 : 1 + a0 % 128 ≤ 255 := by omega
  generalize 1 + a0 % 128 = K at *
  have hcs := (cut_size body).1
  generalize body.extract 0 (mn (body.size : Int) 504).toNat = b at *
  refine Ev.bind (mark_Seal_ev K b) ?_
  have hb : b.data.toList.length ≤ 504 := by rw [dlen]; exact hcs
  rw [seal_ok K b kb1 kb2 hcs]
  have hlen := sealL_len K.toNat b.data.toList hb
  have hv := seal_valid K b.data.toList kb1 kb2 hb
  have ho := open_seal K b.data.toList kb1 kb2 hb
  have hkd := kind_seal K b.data.toList kb1 kb2 hb
  generalize sealL K.toNat b.data.toList = S at *
  have hP := (spoilP_eq h0).2
  have hN : spoilP h0 + spoilN (spoilP h0) ≤ 512 := by unfold spoilN; omega
  have eS : (⟨S.toArray⟩ : ByteArray).data.toList = S := rfl
  have sS : (⟨S.toArray⟩ : ByteArray).size = 512 := by rw [← dlen]; exact hlen
  simp only [Option.isNone_none, if_true, sS]
  refine Ev.bind (mark_Open_ev K _) ?_
  have eX : ∀ X : List UInt8, (⟨X.toArray⟩ : ByteArray).data.toList = X := fun X => rfl
  rw [eX]
  cases hc : spoilC h1 (spoilN (spoilP h0)) with
  | false =>
    rw [spoil_same (spoilP h0) h1 S _ (by omega) hc, ho]
    simp only [Option.isNone_none, Bool.not_true, beq_self_eq_true, if_true]
    refine Ev.bind (mark_Kind_ev _) ?_
    rw [eX, hkd]
    have : (K == 0) = false := by rw [beq_eq_false_iff_ne]; omega
    rw [this]; exact Ev.now _
  | true =>
    have hbad := fun kd => spoil_open kd S (spoilP h0) h1 hlen hP hv hc
    have h2 : (openS K (spoilB (spoilP h0) h1 S (spoilN (spoilP h0)))).2.isNone = false := by
      cases h3 : (openS K (spoilB (spoilP h0) h1 S (spoilN (spoilP h0)))).2 with
      | none => exact absurd h3 (hbad K)
      | some n => rfl
    rw [h2]
    simp only [Bool.not_false, beq_self_eq_true, if_true]
    refine Ev.bind (mark_Kind_ev _) ?_
    have h4 : kindS (spoilB (spoilP h0) h1 S (spoilN (spoilP h0))) = 0 := by
      unfold kindS
      split
      · cases h3 : (openS (((spoilB (spoilP h0) h1 S (spoilN (spoilP h0))).getD 2 0).toNat : Int) (spoilB (spoilP h0) h1 S (spoilN (spoilP h0)))).2 with
        | none => exact absurd h3 (hbad _)
        | some n => rfl
      · rfl
    rw [eX, h4]
    exact Ev.now _

end Go.Proofs.YtdlmgjpnlgdpkaaDoor.Pure
