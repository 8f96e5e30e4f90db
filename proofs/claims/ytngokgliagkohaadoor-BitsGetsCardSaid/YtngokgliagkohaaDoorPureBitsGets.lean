/- BitsGets: the pure law; for every input, no condition. -/
import Derived.Test.YtngokgliagkohaaDoorVBitsGetsx20
import Derived.OpenShut
import Derived.Lib.IndexEntry
namespace Go.Proofs.YtngokgliagkohaaDoor.Pure
open Go Go.RowKit Go.Proofs.YtngokgliagkohaaDoor.VBitsGets Go.Proofs.YtngokgliagkohaaDoorW.PrintWords Go.Proofs.YtngokgliagkohaaDoorW.PrintLast
set_option linter.unusedSimpArgs false
set_option linter.unusedVariables false

def BitsGets.Pure : Prop := ∀ (a0 : ByteArray) (a1 : Int) (a2 : Int), a0.size ≤ 140737488351232 → (Lit.int .i64 a1).wf = true → (Lit.int .i64 a2).wf = true → ∃ k, posthorselaw07_BitsGets.f k a0 a1 a2 = some true
/-! ### base -/
theorem dl (s : ByteArray) : s.toList = s.data.toList := Lib.toList_data s
theorem deq {a b : ByteArray} : a = b ↔ a.data.toList = b.data.toList := ⟨fun h => by rw [h], fun h => Go.WideShapes.bytes_inj h⟩
theorem dapp (a b : ByteArray) : (a ++ b).data.toList = a.data.toList ++ b.data.toList := by simp
theorem dlen (a : ByteArray) : a.data.toList.length = a.size := by rw [Array.length_toList]; rfl
theorem w64 {n : Int} (h0 : -9223372036854775808 ≤ n) (h1 : n ≤ 9223372036854775807) : wrap64 n = n := by unfold wrap64; omega
theorem i64b {n : Int} (h : (Lit.int .i64 n).wf = true) : -9223372036854775808 ≤ n ∧ n ≤ 9223372036854775807 := bounds_i64 h
theorem u8w (n : Int) : IntKind.u8.wrap n = n % 256 := IntKind.wrap_u8 n
theorem Ev.all {α : Type} {g : Nat → Option α} {r : α} (h : ∀ k, g k = some r) : Ev g r := ⟨0, fun k _ => h k⟩
theorem Ev.bindS {α β : Type} {g : Nat → Option α} {f : Nat → α → Option β} {a : α} {r : β} (h : Ev g a) (k : Ev (fun n => f n a) r) : Ev (fun n => (g n).bind (f n)) r := Ev.bind h k
theorem Ev.from {α : Type} {g : Nat → Option α} {r : α} (j : Nat) (h : ∀ k, g (k + j) = some r) : Ev g r := ⟨j, fun k hk => by have := h (k - j); rwa [Nat.sub_add_cancel hk] at this⟩
theorem Ev.to {α : Type} {g : Nat → Option α} {r : α} (h : Ev g r) : ∃ k, g k = some r := h.rounds
theorem Ev.at_ {α : Type} {g : Nat → Option α} {r : α} (hg : ∀ k, LeO (g k) (g (k + 1))) {j : Nat} (h : g j = some r) : Ev g r := Ev.of hg h

/-! ### le -/
/-- The bytes of a number, the lowest first. -/
def leB : Nat → Nat → List UInt8
  | 0, _ => []
  | s + 1, n => UInt8.ofNat (n % 256) :: leB s (n / 256)
theorem leB_len : ∀ s n, (leB s n).length = s
  | 0, _ => rfl
  | s + 1, n => by rw [leB, List.length_cons, leB_len s]
/-- .. and back. -/
def unB : List UInt8 → Nat
  | [] => 0
  | b :: r => b.toNat + 256 * unB r
theorem unB_leB : ∀ s n, unB (leB s n) = n % 256 ^ s
  | 0, n => by simp [leB, unB, Nat.mod_one]
  | s + 1, n => by
    rw [leB, unB, unB_leB s]
    have h1 : (UInt8.ofNat (n % 256)).toNat = n % 256 := by simp
    rw [h1, Nat.pow_succ', Nat.mod_mul]
theorem unB_lt : ∀ l : List UInt8, unB l < 256 ^ l.length
  | [] => by simp [unB]
  | b :: r => by
    have := unB_lt r
    have := b.toNat_lt
    rw [unB, List.length_cons, Nat.pow_succ]
    omega
theorem leB_unB : ∀ l : List UInt8, leB l.length (unB l) = l
  | [] => rfl
  | b :: r => by
    have hb := b.toNat_lt
    rw [unB, List.length_cons, leB]
    have h1 : (b.toNat + 256 * unB r) % 256 = b.toNat := by omega
    have h2 : (b.toNat + 256 * unB r) / 256 = unB r := by omega
    rw [h1, h2, leB_unB r]; simp
theorem leB_get : ∀ (s n j : Nat), j < s → (leB s n)[j]? = some (UInt8.ofNat (n / 256 ^ j % 256))
  | s + 1, n, 0, _ => by simp [leB]
  | s + 1, n, j + 1, h => by
    rw [leB, List.getElem?_cons_succ, leB_get s _ j (by omega), Nat.div_div_eq_div_mul, Nat.pow_succ']
/-- What Put answers. -/
def lePutS (n size : Int) : ByteArray := if 1 ≤ size ∧ size ≤ 7 ∧ 0 ≤ n ∧ n < 256 ^ size.toNat then ⟨(leB size.toNat n.toNat).toArray⟩ else ⟨#[]⟩
/-- The row that Put fills, behind i rounds. -/
def leRow (n : Int) (size i : Nat) : List Int := (List.range size).map fun j => if j < i then n / 256 ^ j % 256 else 0
theorem leRow_len (n : Int) (size i : Nat) : (leRow n size i).length = size := by simp [leRow]
theorem leRow_set (n : Int) (size i : Nat) (_ : i < size) : (leRow n size i).set i (n / 256 ^ i % 256) = leRow n size (i + 1) := by
  apply List.ext_getElem
  · simp [leRow]
  · intro j h1 h2
    simp only [leRow, List.length_map, List.length_range, List.length_set] at h1 h2
    rw [List.getElem_set]
    simp only [leRow, List.getElem_map, List.getElem_range]
    by_cases e : i = j
    · subst e; simp
    · rw [if_neg e]
      by_cases hj : j < i
      · rw [if_pos hj, if_pos (by omega)]
      · rw [if_neg hj, if_neg (by omega)]
theorem divcast (m s : Nat) : (m : Int) / 256 ^ s = ((m / 256 ^ s : Nat) : Int) := by
  rw [Int.natCast_ediv]; congr 1
theorem leRow_full (n : Nat) (size : Nat) : Go.strOfNums (leRow n size size) = ⟨(leB size n).toArray⟩ := by
  unfold Go.strOfNums
  congr 2
  apply List.ext_getElem?
  intro j
  by_cases hj : j < size
  · rw [leB_get _ _ _ hj, leRow, List.getElem?_map, List.getElem?_map, List.getElem?_range hj]
    simp only [Option.map_some, if_pos hj]
    have : ((n : Int) / 256 ^ j % 256).toNat = n / 256 ^ j % 256 := by
      have h1 : ((n : Int) / 256 ^ j % 256) = ((n / 256 ^ j % 256 : Nat) : Int) := by rw [divcast]; rfl
      rw [h1, Int.toNat_natCast]
    rw [this]
  · rw [List.getElem?_eq_none (by simp [leRow]; omega), List.getElem?_eq_none (by rw [leB_len]; omega)]
theorem shr_pow (n : Int) (i : Nat) (hi : i ≤ 7) : shr .i64 n (wrap64 (8 * (i : Int))) = n / 256 ^ i := by
  rw [w64 (by omega) (by omega)]
  unfold shr
  have h1 : min (8 * (i : Int)).toNat (IntKind.bits .i64) = 8 * i := by
    have h2 : (8 * (i : Int)).toNat = 8 * i := by omega
    rw [h2]; show min (8 * i) 64 = 8 * i; omega
  rw [h1]
  have h3 : (2 : Int) ^ (8 * i) = 256 ^ i := by
    have h := congrArg (fun x : Nat => (x : Int)) (Nat.pow_mul 2 8 i)
    simp only [Int.natCast_pow] at h
    exact h
  rw [h3]
theorem le_Put_loop (n : Int) (size : Nat) (hs : size ≤ 7) (h0 : 0 ≤ n) : ∀ (d i : Nat), i + d = size → Ev (fun k => le_Put.l0 k n (leRow n size i) (size : Int) (i : Int)) (Go.strOfNums (leRow n size size)) := by
  intro d
  induction d with
  | zero =>
    intro i hi
    obtain rfl : i = size := by omega
    refine Ev.from 1 fun k => ?_
    rw [le_Put.l0, if_neg (by omega)]
  | succ d ih =>
    intro i hi
    refine Ev.step (f := fun k => le_Put.l0 k n (leRow n size (i + 1)) (size : Int) ((i + 1 : Nat) : Int)) (fun k => ?_) (ih (i + 1) (by omega))
    have e1 : wrap64 (8 * (i : Int)) = 8 * (i : Int) := w64 (by omega) (by omega)
    have e2 : wrap64 ((i : Int) + 1) = ((i + 1 : Nat) : Int) := by rw [w64 (by omega) (by omega)]; omega
    rw [le_Put.l0, if_pos (by omega), if_pos (by rw [e1]; omega), if_pos (by omega), if_pos (by rw [leRow_len]; omega), e2, shr_pow n i (by omega), Int.toNat_natCast, leRow_set n size i (by omega)]
theorem le_Put_ev (n size : Int) (hn : (Lit.int .i64 n).wf = true) : Ev (fun k => le_Put.f k n size) (lePutS n size) := by
  have bn := i64b hn
  have bad : ∀ (n size : Int), ¬ (1 ≤ size ∧ size ≤ 7 ∧ 0 ≤ n ∧ n < 256 ^ size.toNat) → Ev (fun k => le_Put.j0 k n size true) (lePutS n size) := by
    intro n size h
    refine Ev.from 1 fun k => ?_
    rw [le_Put.j0, if_pos rfl, lePutS, if_neg h]
  unfold le_Put.f
  by_cases h1 : size < 1
  · simp only [if_pos h1]; exact bad n size (by omega)
  · by_cases h2 : size > 7
    · simp only [if_neg h1, if_pos h2]; exact bad n size (by omega)
    · by_cases h3 : n < 0
      · simp only [if_neg h1, if_neg h2, if_pos h3]; exact bad n size (by omega)
      · obtain ⟨s, rfl⟩ := Int.eq_ofNat_of_zero_le (show 0 ≤ size by omega)
        obtain ⟨m, rfl⟩ := Int.eq_ofNat_of_zero_le (show 0 ≤ n by omega)
        have e1 : wrap64 (8 * (s : Int)) = 8 * (s : Int) := w64 (by omega) (by omega)
        simp only [if_neg h1, if_neg h2, if_neg h3, if_pos (show 0 ≤ wrap64 (8 * (s : Int)) by rw [e1]; omega)]
        rw [shr_pow _ s (by omega)]
        by_cases h4 : m < 256 ^ s
        · have e3 : ((m : Int) / 256 ^ s != 0) = false := by
            rw [divcast, Nat.div_eq_of_lt h4]; rfl
          rw [e3]
          refine Ev.step (f := fun k => le_Put.l0 k (m : Int) (leRow m s 0) (s : Int) ((0 : Nat) : Int)) (fun k => ?_) ?_
          · rw [le_Put.j0, if_neg (by decide), if_pos (by omega), if_pos (by omega)]
            have e4 : (List.replicate (s : Int).toNat 0 : List Int) = leRow m s 0 := by
              rw [Int.toNat_natCast]
              apply List.ext_getElem
              · simp [leRow]
              · intro j h1 h2; simp [leRow]
            simp only [Option.bind_some, e4, leRow_len]
            rfl
          · have := le_Put_loop (m : Int) s (by omega) (by omega) s 0 (by omega)
            rw [leRow_full] at this
            have e5 : lePutS (m : Int) (s : Int) = ⟨(leB s m).toArray⟩ := by
              unfold lePutS
              rw [if_pos ⟨by omega, by omega, by omega, by rw [Int.toNat_natCast]; have h' := Int.ofNat_lt.2 h4; rw [Int.natCast_pow] at h'; exact h'⟩, Int.toNat_natCast, Int.toNat_natCast]
            rw [e5]; exact this
        · have e3 : ((m : Int) / 256 ^ s != 0) = true := by
            rw [divcast, bne_iff_ne]
            have : 0 < m / 256 ^ s := Nat.div_pos (by omega) (Nat.pow_pos (by decide))
            omega
          rw [e3]
          refine bad _ _ ?_
          rw [Int.toNat_natCast]
          intro ⟨_, _, _, h⟩
          have h' : ((m : Nat) : Int) < ((256 ^ s : Nat) : Int) := by rw [Int.natCast_pow]; exact h
          exact h4 (Int.ofNat_lt.1 h')

/-! ### bt -/
theorem bt_at_nat (s : ByteArray) (i : Nat) (h : i < s.data.toList.length) : bt s (i : Int) = ((s.data.toList[i]).toNat : Int) := by
  have h' : i < s.size := by rw [← dlen]; exact h
  unfold bt
  rw [Int.toNat_natCast, dif_pos h', Array.getElem_toList]; rfl

/-! ### markseal -/
theorem sumOfL_lt (l : List UInt8) : sumOfL l < 4294967296 := by unfold sumOfL; omega
/-- The sum's bytes. -/
def sumB (l : List UInt8) : List UInt8 := leB 4 (sumOfL l)
/-- The head's bytes. -/
def headB (kind : Nat) : List UInt8 := [80, 72, UInt8.ofNat (kind % 256), 0]
theorem wf_of {n : Int} (h0 : -9223372036854775808 ≤ n) (h1 : n ≤ 9223372036854775807) : (Lit.int .i64 n).wf = true := by
  have := wrap64_wf n
  rwa [w64 h0 h1] at this
theorem sumOf_ev (s : ByteArray) (hs : s.size ≤ 140737488355328) : Ev (fun k => mark_sumOf.f k s) ⟨(sumB s.data.toList).toArray⟩ := by
  have h := sumOfL_lt s.data.toList
  unfold mark_sumOf.f mark_Sum.f
  rw [if_pos hs]
  refine Ev.bind (Ev.now _) ?_
  rw [w64 (by omega) (by omega)]
  have e : lePutS (sumOfL s.data.toList : Int) 4 = ⟨(sumB s.data.toList).toArray⟩ := by
    unfold lePutS sumB
    rw [if_pos ⟨by omega, by omega, by omega, by show (sumOfL s.data.toList : Int) < 256 ^ 4; omega⟩]; rfl
  rw [← e]
  refine Ev.bind (le_Put_ev _ 4 (wf_of (by omega) (by omega))) (Ev.now _)
theorem head_ev (kind : Int) (h1 : 1 ≤ kind) (h2 : kind ≤ 255) : Ev (fun k => mark_head.f k kind) ⟨(headB kind.toNat).toArray⟩ := by
  have e : lePutS kind 1 = ⟨#[UInt8.ofNat (kind.toNat % 256)]⟩ := by
    unfold lePutS
    rw [if_pos ⟨by omega, by omega, by omega, by show kind < 256 ^ 1; omega⟩]; rfl
  unfold mark_head.f
  refine Ev.bind (le_Put_ev kind 1 (wf_of (by omega) (by omega))) ?_
  rw [e]
  have es : (⟨#[UInt8.ofNat (kind.toNat % 256)]⟩ : ByteArray).size = 1 := rfl
  rw [if_pos (by rw [es]; decide), if_pos (by rw [ByteArray.size_append, es]; decide)]
  have e2 : (⟨#[80, 72]⟩ : ByteArray) ++ ⟨#[UInt8.ofNat (kind.toNat % 256)]⟩ ++ ⟨#[0]⟩ = ⟨(headB kind.toNat).toArray⟩ := by
    rw [deq]; simp [dapp, headB]
  rw [e2]; exact Ev.now _
theorem repeat_zero (c : Int) (h0 : 0 ≤ c) (h1 : c ≤ 140737488355328) : strings_Repeat.f ⟨#[0]⟩ c = some (zerosB c.toNat) := by
  unfold strings_Repeat.f
  rw [if_pos ⟨h0, by show ((1 : Nat) : Int) * c ≤ _; omega, by omega⟩, show (⟨#[0]⟩ : ByteArray).data.toList = [0] from rfl, repeat0]; rfl
/-- What is summed. -/
def bodyL (kind : Nat) (body : List UInt8) : List UInt8 := headB kind ++ body ++ List.replicate (504 - body.length) 0
/-- A sealed sector. -/
def sealL (kind : Nat) (body : List UInt8) : List UInt8 := bodyL kind body ++ sumB (bodyL kind body)
/-- What Seal answers. -/
def sealS (kind : Int) (body : ByteArray) : ByteArray × Option Int := if kind < 1 ∨ kind > 255 then (⟨#[]⟩, some 1) else if body.size > 504 then (⟨#[]⟩, some 10) else (⟨(sealL kind.toNat body.data.toList).toArray⟩, none)
theorem bodyL_len (kind : Nat) (body : List UInt8) (h : body.length ≤ 504) : (bodyL kind body).length = 508 := by
  simp [bodyL, headB]; omega
theorem sealL_len (kind : Nat) (body : List UInt8) (h : body.length ≤ 504) : (sealL kind body).length = 512 := by
  unfold sealL
  rw [List.length_append, bodyL_len kind body h]; rfl
theorem mark_Seal_ev (kind : Int) (body : ByteArray) : Ev (fun k => mark_Seal.f k kind body) (sealS kind body) := by
  have bad : kind < 1 ∨ kind > 255 → Ev (fun k => mark_Seal.j0 k kind body true) (sealS kind body) := fun h => by
    refine Ev.from 1 fun k => ?_
    rw [mark_Seal.j0, if_pos rfl, sealS, if_pos h]
  unfold mark_Seal.f
  by_cases h1 : kind < 1
  · simp only [if_pos h1]; exact bad (.inl h1)
  · simp only [if_neg h1]
    by_cases h2 : kind > 255
    · rw [decide_eq_true h2]; exact bad (.inr h2)
    · rw [decide_eq_false h2]
      unfold sealS
      rw [if_neg (by omega)]
      refine Ev.step (fun k => by rw [mark_Seal.j0, if_neg (by decide)]) ?_
      by_cases h3 : body.size > 504
      · simp only [if_pos (show (body.size : Int) > 504 by omega), if_pos h3]; exact Ev.now _
      · simp only [if_neg (show ¬ (body.size : Int) > 504 by omega), if_neg h3]
        have hs1 : (⟨(headB kind.toNat).toArray⟩ : ByteArray).size = 4 := rfl
        refine Ev.bind (head_ev kind (by omega) (by omega)) ?_
        simp only [if_pos (show (⟨(headB kind.toNat).toArray⟩ : ByteArray).size + body.size ≤ 9223372036854775807 by rw [hs1]; omega)]
        rw [w64 (by omega) (by omega), repeat_zero _ (by omega) (by omega)]
        refine Ev.bind (Ev.now _) ?_
        have hz : (zerosB (504 - (body.size : Int)).toNat).size = 504 - body.size := by rw [zerosB_size]; omega
        have e : (⟨(headB kind.toNat).toArray⟩ : ByteArray) ++ body ++ zerosB (504 - (body.size : Int)).toNat = ⟨(bodyL kind.toNat body.data.toList).toArray⟩ := by
          rw [deq, dapp, dapp]
          show headB kind.toNat ++ body.data.toList ++ List.replicate (504 - (body.size : Int)).toNat 0 = bodyL kind.toNat body.data.toList
          unfold bodyL
          rw [dlen, show (504 - (body.size : Int)).toNat = 504 - body.size by omega]
        have es : (⟨(bodyL kind.toNat body.data.toList).toArray⟩ : ByteArray).size = 508 := by
          rw [← dlen]; exact bodyL_len _ _ (by rw [dlen]; omega)
        simp only [if_pos (show ((⟨(headB kind.toNat).toArray⟩ : ByteArray) ++ body).size + (zerosB (504 - (body.size : Int)).toNat).size ≤ 9223372036854775807 by rw [ByteArray.size_append, hs1, hz]; omega)]
        rw [e]
        refine Ev.bind (sumOf_ev _ (by rw [es]; decide)) ?_
        have e4 : ∀ l : List UInt8, (⟨(sumB l).toArray⟩ : ByteArray).size = 4 := fun l => rfl
        simp only [if_pos (show (⟨(bodyL kind.toNat body.data.toList).toArray⟩ : ByteArray).size + (⟨(sumB (bodyL kind.toNat body.data.toList)).toArray⟩ : ByteArray).size ≤ 9223372036854775807 by rw [es, e4]; decide)]
        have e5 : (⟨(bodyL kind.toNat body.data.toList).toArray⟩ : ByteArray) ++ ⟨(sumB (bodyL kind.toNat body.data.toList)).toArray⟩ = ⟨(sealL kind.toNat body.data.toList).toArray⟩ := by
          rw [deq, dapp]; rfl
        rw [e5]; exact Ev.now _

/-! ### speaks07 -/
theorem seal5_head (l : List UInt8) (h : l.length = 504) : ∃ X : List UInt8, sealS 5 ⟨l.toArray⟩ = (⟨X.toArray⟩, none) ∧ X.length = 512 ∧ X.getD 4 0 = l.getD 0 0 := by
  refine ⟨sealL 5 l, ?_, sealL_len 5 l (by omega), ?_⟩
  · unfold sealS
    rw [if_neg (by omega), if_neg (show ¬ (⟨l.toArray⟩ : ByteArray).size > 504 by rw [← dlen]; show ¬ l.length > 504; omega)]; rfl
  · match l, h with
    | b :: r, _ => rfl
theorem speaks07_ev : Ev (fun k => posthorselaw07_speaks.f k) true := by
  obtain ⟨X, hX, hl, h4⟩ := seal5_head (setBytes spoken 8) (setBytes_len _ _)
  unfold posthorselaw07_speaks.f bits_Set_Put.f
  refine Ev.bind (a := (⟨X.toArray⟩, none)) ?_ ?_
  · rw [← hX]; exact mark_Seal_ev 5 _
  · refine Ev.from 0 fun k => ?_
    have h6 : (setBytes spoken 8).getD 0 0 = 6 := by decide +kernel
    rw [if_pos ⟨rfl, by rw [← dlen]; exact hl, by show X.getD 4 0 = 6; rw [h4, h6]⟩]

/-! ### bits07 -/
theorem rdOf_nat (L : List Bool) (i : Nat) : rdOf false L (i : Int) = L.getD i false := rfl
theorem setRun_get (L : List Bool) (i n j : Nat) (b : Bool) (h : i + n ≤ L.length) : (setRun L i n b).getD j false = if i ≤ j ∧ j < i + n then b else L.getD j false := by
  unfold setRun
  rw [List.getD_eq_getElem?_getD, List.getD_eq_getElem?_getD]
  simp only [List.getElem?_append, List.getElem?_take, List.getElem?_replicate, List.getElem?_drop, List.length_append, List.length_take, List.length_replicate, Nat.min_eq_left (show i ≤ L.length by omega)]
  by_cases c1 : j < i
  · simp [c1, show j < i + n by omega, show ¬ i ≤ j by omega]
  · by_cases c2 : j < i + n
    · simp [c1, c2, show i ≤ j by omega, show j - i < n by omega]
    · simp only [c1, c2, if_false, and_false]
      rw [show i + n + (j - (i + n)) = j by omega]
theorem list_ext_getD {a b : List Bool} (h : a.length = b.length) (hg : ∀ j, a.getD j false = b.getD j false) : a = b := by
  apply List.ext_getElem h
  intro j h1 h2
  have := hg j
  rwa [List.getD_eq_getElem?_getD, List.getD_eq_getElem?_getD, List.getElem?_eq_getElem h1, List.getElem?_eq_getElem h2] at this
theorem free_ev (L : List Bool) (hL : L.length ≤ 4000) : Ev (fun k => posthorseref07_Free.f k L) ((L.count false : Nat) : Int) := by
  have lp : ∀ (d i c : Nat), i + d = L.length → c + (L.drop i).count false = L.count false → c ≤ i → Ev (fun k => posthorseref07_Free.l0 k L (c : Int) (i : Int)) ((L.count false : Nat) : Int) := by
    intro d
    induction d with
    | zero =>
      intro i c hi hc _
      rw [List.drop_eq_nil_of_le (by omega)] at hc
      refine Ev.from 1 fun k => ?_
      rw [posthorseref07_Free.l0, if_neg (by omega), ← hc]; rfl
    | succ d ih =>
      intro i c hi hc hci
      have hd : (L.drop i).count false = (if L.getD i false = true then 0 else 1) + (L.drop (i + 1)).count false := by
        have c : i < L.length := by omega
        rw [List.drop_eq_getElem_cons c, List.count_cons, List.getD_eq_getElem?_getD, List.getElem?_eq_getElem c]
        cases L[i] <;> simp [Nat.add_comm]
      by_cases hb : L.getD i false = true
      · rw [if_pos hb] at hd
        refine Ev.step (fun k => ?_) (ih (i + 1) c (by omega) (by omega) (by omega))
        rw [posthorseref07_Free.l0, if_pos (by omega), if_pos (by omega), rdOf_nat, if_pos hb, w64 (by omega) (by omega)]; rfl
      · rw [if_neg hb] at hd
        refine Ev.step (fun k => ?_) (ih (i + 1) (c + 1) (by omega) (by omega) (by omega))
        rw [posthorseref07_Free.l0, if_pos (by omega), if_pos (by omega), rdOf_nat, if_neg hb, w64 (by omega) (by omega), w64 (by omega) (by omega)]; rfl
  exact lp L.length 0 0 (by omega) (by simp) (by omega)
/-- Is there a free run of n from number i on? -/
def fit (L : List Bool) (n i : Nat) : Prop := i + n ≤ L.length ∧ ∀ t, t < n → L.getD (i + t) false = false
theorem fit_turn (L : List Bool) (n i : Nat) (hn : 1 ≤ n) : ((turnE L (i : Int) (n : Int) true 9).getD 0 = 0) ↔ fit L n i := by
  unfold turnE
  by_cases h : i + n ≤ L.length
  · rw [if_pos ⟨by omega, by omega, by omega⟩]
    by_cases hr : (L.drop i).take n = List.replicate n false
    · rw [show ((i : Int)).toNat = i from rfl, show ((n : Int)).toNat = n from rfl, if_pos (show (L.drop i).take n = List.replicate n (!true) from hr)]
      exact ⟨fun _ => ⟨h, (run_all L i n false h).1 hr⟩, fun _ => rfl⟩
    · rw [show ((i : Int)).toNat = i from rfl, show ((n : Int)).toNat = n from rfl, if_neg (show ¬ (L.drop i).take n = List.replicate n (!true) from hr)]
      exact ⟨fun h => absurd h (by decide), fun hf => absurd ((run_all L i n false h).2 hf.2) hr⟩
  · rw [if_neg (by omega)]
    exact ⟨fun h => absurd h (by decide), fun hf => absurd hf.1 h⟩
theorem runL_spec (L : List Bool) (n : Nat) (hn : 1 ≤ n) (s : Nat) : ∀ (k i long : Nat), L.length < i + k → s + long ≤ i → long < n → (∀ t, i - long ≤ t → t < i → L.getD t false = false) → (long + s = i ∨ (s + long + 1 ≤ i ∧ L.getD (i - long - 1) false = true)) → (∀ p, s ≤ p → p + n ≤ i → ¬ fit L n p) →
    (∃ p, s ≤ p ∧ fit L n p ∧ (∀ q, s ≤ q → q < p → ¬ fit L n q) ∧ runL L (n : Int) k i long = ((p : Int), true)) ∨ ((∀ p, s ≤ p → ¬ fit L n p) ∧ runL L (n : Int) k i long = (0, false))
  | 0, i, long, hk, _, _, _, _, hc => .inr ⟨fun p hp hf => hc p hp (by have := hf.1; omega) hf, rfl⟩
  | k + 1, i, long, hk, hs, hl, ht, hb, hc => by
    by_cases c : i < L.length
    · cases hv : L.getD i false with
      | true =>
        have e : runL L (n : Int) (k + 1) i long = runL L (n : Int) k (i + 1) 0 := by rw [runL, if_pos c, if_pos hv]
        rw [e]
        refine runL_spec L n hn s k (i + 1) 0 (by omega) (by omega) (by omega) (fun t h1 h2 => by omega) (.inr ⟨by omega, hv⟩) (fun p hp hpn hf => ?_)
        by_cases h : p + n ≤ i
        · exact hc p hp h hf
        · have := hf.2 (n - 1) (by omega)
          rw [show p + (n - 1) = i by omega, hv] at this
          cases this
      | false =>
        have hv' : ¬ L.getD i false = true := by rw [hv]; simp
        by_cases cn : long + 1 = n
        · have e : runL L (n : Int) (k + 1) i long = (((i : Int) - (n : Int) + 1), true) := by rw [runL, if_pos c, if_neg hv', if_pos (by omega)]
          refine .inl ⟨i + 1 - n, by omega, ⟨by omega, fun t h => ?_⟩, fun q hq hqp => hc q hq (by omega), ?_⟩
          · by_cases h2 : i + 1 - n + t = i
            · rw [h2]; exact hv
            · exact ht _ (by omega) (by omega)
          · rw [e]; congr 1; omega
        · have e : runL L (n : Int) (k + 1) i long = runL L (n : Int) k (i + 1) (long + 1) := by rw [runL, if_pos c, if_neg hv', if_neg (by omega)]
          rw [e]
          refine runL_spec L n hn s k (i + 1) (long + 1) (by omega) (by omega) (by omega) (fun t h1 h2 => ?_) ?_ (fun p hp hpn hf => ?_)
          · by_cases h3 : t = i
            · rw [h3]; exact hv
            · exact ht t (by omega) (by omega)
          · rcases hb with hb | ⟨hb1, hb2⟩
            · exact .inl (by omega)
            · exact .inr ⟨by omega, by rw [show i + 1 - (long + 1) - 1 = i - long - 1 by omega]; exact hb2⟩
          · by_cases h : p + n ≤ i
            · exact hc p hp h hf
            · rcases hb with hb | ⟨hb1, hb2⟩
              · omega
              · have := hf.2 (i - long - 1 - p) (by omega)
                rw [show p + (i - long - 1 - p) = i - long - 1 by omega, hb2] at this
                cases this
    · exact .inr ⟨fun p hp hf => hc p hp (by have := hf.1; omega) hf, by rw [runL, if_neg c]⟩
/-! ### lf03 -/
/-- One bit of the register. -/
def lf (x : Nat) : Nat := x / 2 ^^^ (if x % 2 = 1 then 2197175160 else 0)
def lfs : Nat → Nat → Nat
  | 0, x => x
  | d + 1, x => lfs d (lf x)
theorem lf_xor (x y : Nat) : lf (x ^^^ y) = lf x ^^^ lf y := by
  unfold lf
  rw [Nat.xor_div_two]
  have hm : (x ^^^ y) % 2 = (x % 2 + y % 2) % 2 := by
    have h := Nat.testBit_xor x y 0
    simp only [Nat.testBit_zero] at h
    rcases Nat.mod_two_eq_zero_or_one x with hx | hx <;> rcases Nat.mod_two_eq_zero_or_one y with hy | hy <;> rcases Nat.mod_two_eq_zero_or_one (x ^^^ y) with hz | hz <;> simp_all
  have e : ∀ a b p : Nat, a ^^^ p ^^^ (b ^^^ p) = a ^^^ b := fun a b p => by
    rw [Nat.xor_assoc, ← Nat.xor_assoc p b p, Nat.xor_comm p b, Nat.xor_assoc b p p, Nat.xor_self, Nat.xor_zero]
  have e2 : ∀ a b p : Nat, a ^^^ b ^^^ p = a ^^^ p ^^^ b := fun a b p => by rw [Nat.xor_assoc, Nat.xor_comm b, ← Nat.xor_assoc]
  rcases Nat.mod_two_eq_zero_or_one x with hx | hx <;> rcases Nat.mod_two_eq_zero_or_one y with hy | hy
  · rw [if_neg (by omega), if_neg (by omega), if_neg (by omega), Nat.xor_zero, Nat.xor_zero, Nat.xor_zero]
  · rw [if_pos (by omega), if_neg (by omega), if_pos (by omega), Nat.xor_zero, Nat.xor_assoc]
  · rw [if_pos (by omega), if_pos (by omega), if_neg (by omega), Nat.xor_zero, e2]
  · rw [if_neg (by omega), if_pos (by omega), if_pos (by omega), Nat.xor_zero, e]
theorem lfs_xor : ∀ d x y, lfs d (x ^^^ y) = lfs d x ^^^ lfs d y
  | 0, _, _ => rfl
  | d + 1, x, y => by rw [lfs, lfs, lfs, lf_xor, lfs_xor d]
theorem lf_two (q : Nat) : lf (2 * q) = q := by
  unfold lf
  rw [if_neg (by omega), Nat.xor_zero]; omega
theorem lfs4 (q : Nat) : lfs 4 (16 * q) = q := by
  show lf (lf (lf (lf (16 * q)))) = q
  rw [show 16 * q = 2 * (2 * (2 * (2 * q))) by omega, lf_two, lf_two, lf_two, lf_two]
theorem split16 (x : Nat) : x = (16 * (x / 16)) ^^^ (x % 16) := by
  have h := Nat.shiftLeft_add_eq_or_of_lt (show x % 16 < 2 ^ 4 by omega) (x / 16)
  have hd : (x / 16) <<< 4 &&& (x % 16) = 0 := by
    apply Nat.eq_of_testBit_eq
    intro i
    rw [Nat.testBit_and, Nat.zero_testBit, Nat.testBit_shiftLeft]
    by_cases hi : i ≥ 4
    · have : (x % 16).testBit i = false := Nat.testBit_lt_two_pow (Nat.lt_of_lt_of_le (show x % 16 < 2 ^ 4 by omega) (Nat.pow_le_pow_right (by decide) hi))
      rw [this, Bool.and_false]
    · simp [hi]
  have hx : (x / 16) <<< 4 ^^^ (x % 16) = (x / 16) <<< 4 ||| (x % 16) := by
    apply Nat.eq_of_testBit_eq
    intro i
    have h2 := congrArg (fun n => n.testBit i) hd
    simp only [Nat.testBit_and, Nat.zero_testBit] at h2
    rw [Nat.testBit_xor, Nat.testBit_or]
    cases h3 : ((x / 16) <<< 4).testBit i <;> cases h4 : (x % 16).testBit i <;> simp_all
  rw [Nat.shiftLeft_eq] at h hx
  rw [show 16 * (x / 16) = x / 16 * 2 ^ 4 by omega, hx, ← h]; omega
theorem nib_lfs (x : Nat) : nibStep x = lfs 4 x := by
  have h : ∀ i : Fin 16, lfs 4 i.val = nibs.getD i.val 0 := by decide +kernel
  have h2 : lfs 4 (x % 16) = nibs.getD (x % 16) 0 := h ⟨x % 16, Nat.mod_lt _ (by decide)⟩
  unfold nibStep
  rw [← h2]
  have h3 := congrArg (lfs 4) (split16 x)
  rw [lfs_xor, lfs4] at h3
  exact h3.symm
theorem sum_lfs (r b : Nat) : sumStep r b = lfs 8 (r ^^^ b) := by
  unfold sumStep
  rw [nib_lfs, nib_lfs]; rfl

/-! ### sum03 -/
theorem ref_bit (R c : Nat) (hR : R < 4294967296) (hc : c < 4294967296) : (Int.tmod (Go.bits .xor .u32 (R : Int) (c : Int)) 2 = 1) = ((R ^^^ c) % 2 = 1) := by
  rw [xor_u32 R c hR hc, Int.tmod_eq_emod_of_nonneg (by omega)]
  apply propext
  constructor <;> intro h <;> omega
theorem ref03_inner (s : ByteArray) (i : Nat) (hi : i < s.size) (hs : s.size ≤ 140737488355328) (b : Nat) (hb : bt s (i : Int) = (b : Int)) (hb2 : b < 256) (res : Int) : ∀ (d j R : Nat), j + d = 8 → R < 4294967296 →
    Ev (fun k => posthorseref03_Sum.l0 k s ((lfs d (R ^^^ (b / 2 ^ j)) : Nat) : Int) ((i + 1 : Nat) : Int)) res → Ev (fun k => posthorseref03_Sum.l1 k s (R : Int) (i : Int) (j : Int)) res := by
  have e1 : wrap64 ((i : Int) + 1) = ((i + 1 : Nat) : Int) := by rw [w64 (by omega) (by omega)]; omega
  intro d
  induction d with
  | zero =>
    intro j R hj hR h
    obtain rfl : j = 8 := by omega
    have : b / 2 ^ 8 = 0 := Nat.div_eq_of_lt (by omega)
    rw [this, Nat.xor_zero, lfs] at h
    refine Ev.step (fun k => ?_) h
    rw [posthorseref03_Sum.l1, if_neg (by omega), e1]
  | succ d ih =>
    intro j R hj hR h
    have ej : wrap64 ((j : Int) + 1) = ((j + 1 : Nat) : Int) := by rw [w64 (by omega) (by omega)]; omega
    have eu : IntKind.u64.wrap (j : Int) = (j : Int) := by rw [IntKind.wrap_u64]; omega
    have hsh : shr .u32 ((b : Int) % 4294967296) (j : Int) = ((b / 2 ^ j : Nat) : Int) := by
      unfold shr
      rw [Int.toNat_natCast, show min j (IntKind.bits .u32) = j by show min j 32 = j; omega, show (b : Int) % 4294967296 = (b : Int) by omega, Int.natCast_ediv, Int.natCast_pow]; rfl
    have hc : b / 2 ^ j < 256 := Nat.lt_of_le_of_lt (Nat.div_le_self _ _) hb2
    have hd2 : b / 2 ^ (j + 1) = b / 2 ^ j / 2 := by rw [Nat.div_div_eq_div_mul, Nat.pow_succ]
    have hdiv : (Int.tdiv (R : Int) 2) % 4294967296 = ((R / 2 : Nat) : Int) := by rw [Int.tdiv_eq_ediv_of_nonneg (by omega)]; omega
    have hstep : ∀ R' : Nat, R' < 4294967296 → R' ^^^ (b / 2 ^ (j + 1)) = lf (R ^^^ (b / 2 ^ j)) → Ev (fun k => posthorseref03_Sum.l1 k s (R' : Int) (i : Int) ((j + 1 : Nat) : Int)) res := by
      intro R' hR' he
      refine ih (j + 1) R' (by omega) hR' ?_
      rw [he]; exact h
    by_cases hbit : (R ^^^ (b / 2 ^ j)) % 2 = 1
    · have hx : ((R / 2 ^^^ 2197175160 : Nat)) < 4294967296 := xor_lt32 (by omega) (by decide)
      refine Ev.step (fun k => ?_) (hstep (R / 2 ^^^ 2197175160) hx ?_)
      · rw [posthorseref03_Sum.l1, if_pos (by omega), if_pos (by omega), if_pos (by omega), eu, if_pos (by omega), hb, hsh]
        simp only [ref_bit R _ hR (show b / 2 ^ j < 4294967296 by omega), if_pos hbit, hdiv, ej]
        have := xor_u32 (R / 2) 2197175160 (by omega) (by decide)
        rw [show ((2197175160 : Nat) : Int) = 2197175160 from rfl] at this
        rw [this]
      · unfold lf
        rw [if_pos hbit, Nat.xor_div_two, hd2, Nat.xor_assoc, Nat.xor_comm 2197175160, ← Nat.xor_assoc]
    · refine Ev.step (fun k => ?_) (hstep (R / 2) (by omega) ?_)
      · rw [posthorseref03_Sum.l1, if_pos (by omega), if_pos (by omega), if_pos (by omega), eu, if_pos (by omega), hb, hsh]
        simp only [ref_bit R _ hR (show b / 2 ^ j < 4294967296 by omega), if_neg hbit, hdiv, ej]
      · unfold lf
        rw [if_neg hbit, Nat.xor_div_two, hd2, Nat.xor_zero]
theorem ref03_Sum_loop (s : ByteArray) (hs : s.size ≤ 140737488355328) : ∀ (d i : Nat), i + d = s.size → Ev (fun k => posthorseref03_Sum.l0 k s ((sumReg (s.data.toList.take i) : Nat) : Int) (i : Int)) (sumOfL s.data.toList : Int) := by
  intro d
  induction d with
  | zero =>
    intro i hi
    refine Ev.from 1 fun k => ?_
    have hr := sumReg_lt s.data.toList
    rw [posthorseref03_Sum.l0, if_neg (by omega), List.take_of_length_le (by rw [dlen]; omega)]
    unfold sumOfL
    congr 1
    omega
  | succ d ih =>
    intro i hi
    have hil : i < s.data.toList.length := by rw [dlen]; omega
    have hr := sumReg_lt (s.data.toList.take i)
    refine Ev.step (f := fun k => posthorseref03_Sum.l1 k s ((sumReg (s.data.toList.take i) : Nat) : Int) (i : Int) ((0 : Nat) : Int)) (fun k => by rw [posthorseref03_Sum.l0, if_pos (by omega)]; rfl) ?_
    refine ref03_inner s i (by omega) hs (s.data.toList[i]).toNat (bt_at_nat s i hil) (s.data.toList[i]).toNat_lt _ 8 0 _ (by omega) hr ?_
    have e : lfs 8 (sumReg (s.data.toList.take i) ^^^ ((s.data.toList[i]).toNat / 2 ^ 0)) = sumReg (s.data.toList.take (i + 1)) := by
      rw [Nat.pow_zero, Nat.div_one, ← sum_lfs]
      unfold sumReg
      rw [List.take_succ_eq_append_getElem hil, List.foldl_append]; rfl
    rw [e]
    exact ih (i + 1) (by omega)
theorem ref03_Sum_ev (s : ByteArray) (hs : s.size ≤ 140737488355328) : Ev (fun k => posthorseref03_Sum.f k s) (sumOfL s.data.toList : Int) := by
  unfold posthorseref03_Sum.f
  exact ref03_Sum_loop s hs s.size 0 (by omega)

/-! ### ref01put -/
theorem leB_snoc : ∀ (i m : Nat), leB (i + 1) m = leB i m ++ [UInt8.ofNat (m / 256 ^ i % 256)]
  | 0, m => by simp [leB]
  | i + 1, m => by
    have h := leB_snoc i (m / 256)
    show UInt8.ofNat (m % 256) :: leB (i + 1) (m / 256) = (UInt8.ofNat (m % 256) :: leB i (m / 256)) ++ [UInt8.ofNat (m / 256 ^ (i + 1) % 256)]
    rw [h, Nat.div_div_eq_div_mul, Nat.pow_succ']; rfl
theorem ref01_Put_loop (m size : Nat) (hs : size ≤ 7) : ∀ (d i : Nat), i + d = size → (m : Int) ≤ 9223372036854775807 →
    Ev (fun k => posthorseref01_Put.l0 k ((m / 256 ^ i : Nat) : Int) (size : Int) ⟨(leB i m).toArray⟩ (i : Int)) (if m < 256 ^ size then ⟨(leB size m).toArray⟩ else ⟨#[]⟩) := by
  intro d
  induction d with
  | zero =>
    intro i hi hm
    obtain rfl : i = size := by omega
    refine Ev.from 1 fun k => ?_
    rw [posthorseref01_Put.l0, if_neg (by omega)]
    by_cases h : m < 256 ^ i
    · rw [if_pos h, Nat.div_eq_of_lt h, if_neg (by decide)]
    · have hp : 0 < m / 256 ^ i := Nat.div_pos (by omega) (Nat.pow_pos (by decide))
      rw [if_neg h, if_pos (by omega)]
  | succ d ih =>
    intro i hi hm
    have hle : m / 256 ^ i ≤ m := Nat.div_le_self _ _
    have hq1 : m / 256 ^ (i + 1) = m / 256 ^ i / 256 := by rw [Nat.div_div_eq_div_mul, ← Nat.pow_succ]
    have hsn := leB_snoc i m
    have ih' := ih (i + 1) (by omega) hm
    rw [hq1] at ih'
    generalize m / 256 ^ i = q at hle hsn ih' ⊢
    have e1 : wrap64 ((i : Int) + 1) = ((i + 1 : Nat) : Int) := by rw [w64 (by omega) (by omega)]; omega
    have e2 : wrap64 (Int.tdiv (q : Int) 256) = ((q / 256 : Nat) : Int) := by
      rw [Int.tdiv_eq_ediv_of_nonneg (by omega), w64 (by omega) (by omega)]; omega
    have e3 : (⟨(leB i m).toArray⟩ : ByteArray) ++ (strOfNums [(Int.tmod (q : Int) 256) % 256]) = ⟨(leB (i + 1) m).toArray⟩ := by
      rw [deq, dapp, hsn]
      have h1 : ((Int.tmod (q : Int) 256) % 256).toNat = q % 256 := by
        rw [Int.tmod_eq_emod_of_nonneg (by omega)]; omega
      simp only [strOfNums, List.map_cons, List.map_nil, h1]
    have e4 : (⟨(leB i m).toArray⟩ : ByteArray).size = i := by rw [← dlen]; simp [leB_len]
    have e5 : (strOfNums [(Int.tmod (q : Int) 256) % 256]).size = 1 := by simp [strOfNums, ByteArray.size]
    refine Ev.step (fun k => ?_) ih'
    rw [posthorseref01_Put.l0, if_pos (by omega)]
    simp only [Option.bind_some, e1, e2, e3, e4, e5]
    rw [if_pos (by omega)]
theorem ref01_Put_ev (n size : Int) (hn : (Lit.int .i64 n).wf = true) : Ev (fun k => posthorseref01_Put.f k n size) (lePutS n size) := by
  have bn := i64b hn
  have bad : ¬ (1 ≤ size ∧ size ≤ 7 ∧ 0 ≤ n ∧ n < 256 ^ size.toNat) → Ev (fun k => posthorseref01_Put.j0 k n size true) (lePutS n size) := by
    intro h
    refine Ev.from 1 fun k => ?_
    rw [posthorseref01_Put.j0, if_pos rfl, lePutS, if_neg h]
  unfold posthorseref01_Put.f
  by_cases h1 : size < 1
  · simp only [if_pos h1]; exact bad (by omega)
  · by_cases h2 : size > 7
    · simp only [if_neg h1, if_pos h2]; exact bad (by omega)
    · simp only [if_neg h1, if_neg h2]
      by_cases h3 : n < 0
      · rw [decide_eq_true h3]; exact bad (by omega)
      · rw [decide_eq_false h3]
        obtain ⟨s, rfl⟩ := Int.eq_ofNat_of_zero_le (show 0 ≤ size by omega)
        obtain ⟨m, rfl⟩ := Int.eq_ofNat_of_zero_le (show 0 ≤ n by omega)
        have := ref01_Put_loop m s (by omega) s 0 (by omega) (by omega)
        rw [Nat.pow_zero, Nat.div_one] at this
        have e5 : lePutS (m : Int) (s : Int) = (if m < 256 ^ s then ⟨(leB s m).toArray⟩ else ⟨#[]⟩) := by
          unfold lePutS
          rw [Int.toNat_natCast, Int.toNat_natCast]
          have hc : ((256 : Int) ^ s) = ((256 ^ s : Nat) : Int) := by rw [Int.natCast_pow]; rfl
          by_cases hm : m < 256 ^ s
          · rw [if_pos hm, if_pos ⟨by omega, by omega, by omega, by rw [hc]; exact Int.ofNat_lt.2 hm⟩]
          · rw [if_neg hm, if_neg (fun ⟨_, _, _, h⟩ => hm (by rw [hc] at h; exact Int.ofNat_lt.1 h))]
        rw [e5]
        exact Ev.step (fun k => by rw [posthorseref01_Put.j0, if_neg (by decide)]; rfl) this

/-! ### seal03 -/
/-- What the document's Seal answers. -/
def refSeal (kind : Int) (body : ByteArray) : ByteArray × Int := if kind < 1 ∨ kind > 255 then (⟨#[]⟩, 1) else if body.size > 504 then (⟨#[]⟩, 10) else (⟨(sealL kind.toNat body.data.toList).toArray⟩, 0)
theorem ref_Seal_loop (kind : Nat) (body : List UInt8) (hb : body.length ≤ 504) : ∀ (d i : Nat), i + d = 504 - body.length → Ev (fun k => posthorseref03_Seal.l0 k ⟨(headB kind ++ body ++ List.replicate i 0).toArray⟩) (⟨(sealL kind body).toArray⟩, 0) := by
  have sz : ∀ i, (⟨(headB kind ++ body ++ List.replicate i 0).toArray⟩ : ByteArray).size = 4 + body.length + i := fun i => by
    rw [← dlen]
    show (headB kind ++ body ++ List.replicate i 0).length = _
    simp [headB]; omega
  intro d
  induction d with
  | zero =>
    intro i hi
    obtain rfl : i = 504 - body.length := by omega
    have e : (headB kind ++ body ++ List.replicate (504 - body.length) 0) = bodyL kind body := rfl
    have s0 := sz (504 - body.length)
    rw [e] at s0 ⊢
    have hs := sumOfL_lt (bodyL kind body)
    refine Ev.step (f := fun k => (posthorseref03_Sum.f k ⟨(bodyL kind body).toArray⟩).bind fun t130 => ((posthorseref01_Put.f k (wrap64 t130) 4).bind fun t131 => if (⟨(bodyL kind body).toArray⟩ : ByteArray).size + t131.size ≤ 9223372036854775807 then some ((⟨(bodyL kind body).toArray⟩ : ByteArray) ++ t131, 0) else none)) (fun k => by rw [posthorseref03_Seal.l0_s, if_neg (by omega)]) ?_
    refine Ev.bind (ref03_Sum_ev _ (by omega)) ?_
    rw [show (⟨(bodyL kind body).toArray⟩ : ByteArray).data.toList = bodyL kind body from rfl, w64 (by omega) (by omega)]
    refine Ev.bind (ref01_Put_ev _ 4 (wf_of (by omega) (by omega))) ?_
    have e2 : lePutS (sumOfL (bodyL kind body) : Int) 4 = ⟨(sumB (bodyL kind body)).toArray⟩ := by
      unfold lePutS sumB
      rw [if_pos ⟨by omega, by omega, by omega, by show (sumOfL (bodyL kind body) : Int) < 256 ^ 4; omega⟩]; rfl
    have e4 : (⟨(sumB (bodyL kind body)).toArray⟩ : ByteArray).size = 4 := rfl
    rw [e2]
    refine Ev.from 0 fun k => ?_
    rw [if_pos (by rw [e4]; omega)]
    have e5 : (⟨(bodyL kind body).toArray⟩ : ByteArray) ++ ⟨(sumB (bodyL kind body)).toArray⟩ = ⟨(sealL kind body).toArray⟩ := by
      rw [deq, dapp]; rfl
    rw [e5]
  | succ d ih =>
    intro i hi
    have h := ih (i + 1) (by omega)
    refine Ev.step (fun k => ?_) h
    have e1 : (⟨#[0]⟩ : ByteArray).size = 1 := rfl
    rw [posthorseref03_Seal.l0_s, if_pos (by rw [sz]; omega), if_pos (by rw [sz, e1]; omega)]
    have e : (⟨(headB kind ++ body ++ List.replicate i 0).toArray⟩ : ByteArray) ++ ⟨#[0]⟩ = ⟨(headB kind ++ body ++ List.replicate (i + 1) 0).toArray⟩ := by
      rw [deq, dapp]
      show (headB kind ++ body ++ List.replicate i 0) ++ [0] = headB kind ++ body ++ List.replicate (i + 1) 0
      rw [List.append_assoc, ← List.replicate_succ']
    rw [e]
theorem ref_Seal_ev (kind : Int) (body : ByteArray) : Ev (fun k => posthorseref03_Seal.f k kind body) (refSeal kind body) := by
  have bad : kind < 1 ∨ kind > 255 → Ev (fun k => posthorseref03_Seal.j0 k kind body true) (refSeal kind body) := fun h => by
    refine Ev.from 1 fun k => ?_
    rw [posthorseref03_Seal.j0, if_pos rfl, refSeal, if_pos h]
  unfold posthorseref03_Seal.f
  by_cases h1 : kind < 1
  · simp only [if_pos h1]; exact bad (.inl h1)
  · simp only [if_neg h1]
    by_cases h2 : kind > 255
    · rw [decide_eq_true h2]; exact bad (.inr h2)
    · rw [decide_eq_false h2]
      unfold refSeal
      rw [if_neg (by omega)]
      refine Ev.step (fun k => by rw [posthorseref03_Seal.j0, if_neg (by decide)]) ?_
      by_cases h3 : body.size > 504
      · simp only [if_pos (show (body.size : Int) > 504 by omega), if_pos h3]; exact Ev.now _
      · simp only [if_neg (show ¬ (body.size : Int) > 504 by omega), if_neg h3]
        refine Ev.bind (Ev.now _) ?_
        have es : (strOfNums [kind % 256, 0]).size = 2 := rfl
        have e : (⟨#[80, 72]⟩ : ByteArray) ++ strOfNums [kind % 256, 0] ++ body = ⟨(headB kind.toNat ++ body.data.toList ++ List.replicate 0 0).toArray⟩ := by
          rw [deq, dapp, dapp]
          show [80, 72] ++ [UInt8.ofNat (kind % 256).toNat, UInt8.ofNat (0 : Int).toNat] ++ body.data.toList = headB kind.toNat ++ body.data.toList ++ []
          unfold headB
          rw [show (kind % 256).toNat = kind.toNat % 256 by omega]; simp
        simp only [if_pos (show 2 + (strOfNums [kind % 256, 0]).size ≤ 9223372036854775807 by rw [es]; decide), if_pos (show ((⟨#[80, 72]⟩ : ByteArray) ++ strOfNums [kind % 256, 0]).size + body.size ≤ 9223372036854775807 by rw [ByteArray.size_append, es]; show 2 + 2 + body.size ≤ _; omega)]
        rw [e]
        have := ref_Seal_loop kind.toNat body.data.toList (by rw [dlen]; omega) (504 - body.data.toList.length) 0 (by omega)
        exact this

/-! ### markopen -/
/-- What Open answers. -/
def openS (kind : Int) (l : List UInt8) : ByteArray × Option Int := if l.length = 512 ∧ 1 ≤ kind ∧ kind ≤ 255 ∧ l.take 4 = headB kind.toNat then (if l.drop 508 = sumB (l.take 508) then (⟨((l.take 508).drop 4).toArray⟩, none) else (⟨#[]⟩, some 5)) else (⟨#[]⟩, some 4)
theorem ext_list (s : ByteArray) (a b : Nat) : (s.extract a b).data.toList = (s.data.toList.take b).drop a := by
  rw [ByteArray.data_extract, Array.toList_extract, List.extract_eq_drop_take', List.drop_take]
theorem mark_Open_ev (kind : Int) (s : ByteArray) : Ev (fun k => mark_Open.f k kind s) (openS kind s.data.toList) := by
  have bad : ¬ (s.data.toList.length = 512 ∧ 1 ≤ kind ∧ kind ≤ 255 ∧ s.data.toList.take 4 = headB kind.toNat) → Ev (fun k => mark_Open.j0 k s true) (openS kind s.data.toList) := fun h => by
    refine Ev.from 1 fun k => ?_
    rw [mark_Open.j0, if_pos rfl, openS, if_neg h]
  have hl := dlen s
  unfold mark_Open.f
  by_cases h0 : s.size = 512
  · simp only [if_pos (show (s.size : Int) = 512 by omega)]
    by_cases h1 : kind < 1
    · simp only [if_pos h1]; exact bad (by omega)
    · by_cases h2 : kind > 255
      · simp only [if_neg h1, if_pos h2]; exact bad (by omega)
      · simp only [if_neg h1, if_neg h2]
        simp only [if_pos (show (0 : Int) ≤ 4 by decide), if_pos (show 4 ≤ (s.size : Int) by omega)]
        refine Ev.bind (head_ev kind (by omega) (by omega)) ?_
        have e4 : (s.extract 0 4).toList = s.data.toList.take 4 := by rw [dl, ext_list, List.drop_zero]
        have e4' : ByteArray.toList ⟨(headB kind.toNat).toArray⟩ = headB kind.toNat := by rw [dl]
        rw [e4, e4']
        by_cases h3 : s.data.toList.take 4 = headB kind.toNat
        · rw [h3, bne_self_eq_false]
          refine Ev.step (fun k => by rw [mark_Open.j0, if_neg (by decide), if_pos (by omega), if_pos (by decide)]) ?_
          refine Ev.bind (sumOf_ev (s.extract 0 508) (by rw [ByteArray.size_extract]; omega)) ?_
          have e5 : (s.extract 508 s.size).toList = s.data.toList.drop 508 := by rw [dl, ext_list, List.take_of_length_le (by rw [dlen]; omega)]
          have e6 : (s.extract 0 508).data.toList = s.data.toList.take 508 := by rw [ext_list, List.drop_zero]
          have e7 : ∀ l : List UInt8, ByteArray.toList ⟨(sumB l).toArray⟩ = sumB l := fun l => by rw [dl]
          rw [e5, e6, e7]
          have hc : s.data.toList.length = 512 ∧ 1 ≤ kind ∧ kind ≤ 255 ∧ s.data.toList.take 4 = headB kind.toNat := ⟨by omega, by omega, by omega, h3⟩
          have e8 : s.extract 4 508 = ⟨((s.data.toList.take 508).drop 4).toArray⟩ := by rw [deq, ext_list]
          by_cases h4 : s.data.toList.drop 508 = sumB (s.data.toList.take 508)
          · have eo : openS kind s.data.toList = (⟨((s.data.toList.take 508).drop 4).toArray⟩, none) := by unfold openS; rw [if_pos hc, if_pos h4]
            rw [eo]
            refine Ev.from 0 fun k => ?_
            rw [if_pos h4, if_pos (by decide), e8]
          · have eo : openS kind s.data.toList = (⟨#[]⟩, some 5) := by unfold openS; rw [if_pos hc, if_neg h4]
            rw [eo]
            refine Ev.from 0 fun k => ?_
            rw [if_neg h4]
        · have : (s.data.toList.take 4 != headB kind.toNat) = true := by simpa using h3
          rw [this]
          exact bad (fun h => h3 h.2.2.2)
  · simp only [if_neg (show ¬ (s.size : Int) = 512 by omega)]; exact bad (by omega)
/-- What is sealed opens as that. -/
theorem open_seal (kind : Int) (body : List UInt8) (h1 : 1 ≤ kind) (h2 : kind ≤ 255) (hb : body.length ≤ 504) : openS kind (sealL kind.toNat body) = (⟨(body ++ List.replicate (504 - body.length) 0).toArray⟩, none) := by
  have hbl := bodyL_len kind.toNat body hb
  have t508 : (sealL kind.toNat body).take 508 = bodyL kind.toNat body := by
    unfold sealL
    rw [List.take_append_of_le_length (by omega), List.take_of_length_le (by omega)]
  have d508 : (sealL kind.toNat body).drop 508 = sumB (bodyL kind.toNat body) := by
    unfold sealL
    rw [← hbl, List.drop_left]
  have t4 : (sealL kind.toNat body).take 4 = headB kind.toNat := rfl
  unfold openS
  rw [if_pos ⟨sealL_len _ _ hb, h1, h2, t4⟩, t508, d508, if_pos rfl]
  rfl

/-! ### open03 -/
/-- What the document's Open answers. -/
def refOpen (kind : Int) (s : ByteArray) : ByteArray × Int := ((openS kind s.data.toList).1, (openS kind s.data.toList).2.getD 0)
theorem ref_Open_ev (kind : Int) (s : ByteArray) : Ev (fun k => posthorseref03_Open.f k kind s) (refOpen kind s) := by
  have bad : ¬ (s.data.toList.length = 512 ∧ 1 ≤ kind ∧ kind ≤ 255 ∧ s.data.toList.take 4 = headB kind.toNat) → Ev (fun k => posthorseref03_Open.j0 k s true) (refOpen kind s) := fun h => by
    have eo : openS kind s.data.toList = (⟨#[]⟩, some 4) := by unfold openS; rw [if_neg h]
    refine Ev.from 1 fun k => ?_
    rw [posthorseref03_Open.j0, if_pos rfl]
    unfold refOpen
    rw [eo]; rfl
  have hl := dlen s
  unfold posthorseref03_Open.f
  by_cases h0 : s.size = 512
  · simp only [if_pos (show (s.size : Int) = 512 by omega)]
    by_cases h1 : kind < 1
    · simp only [if_pos h1]; exact bad (by omega)
    · by_cases h2 : kind > 255
      · simp only [if_neg h1, if_pos h2]; exact bad (by omega)
      · simp only [if_neg h1, if_neg h2]
        simp only [if_pos (show (0 : Int) ≤ 4 by decide), if_pos (show 4 ≤ (s.size : Int) by omega)]
        refine Ev.bind (Ev.now _) ?_
        have es : (strOfNums [kind % 256, 0]).size = 2 := rfl
        have e : (⟨#[80, 72]⟩ : ByteArray) ++ strOfNums [kind % 256, 0] = ⟨(headB kind.toNat).toArray⟩ := by
          rw [deq, dapp]
          show [80, 72] ++ [UInt8.ofNat (kind % 256).toNat, UInt8.ofNat (0 : Int).toNat] = headB kind.toNat
          unfold headB
          rw [show (kind % 256).toNat = kind.toNat % 256 by omega]; simp
        simp only [if_pos (show 2 + (strOfNums [kind % 256, 0]).size ≤ 9223372036854775807 by rw [es]; decide)]
        rw [e]
        have e4 : (s.extract 0 4).toList = s.data.toList.take 4 := by rw [dl, ext_list, List.drop_zero]
        have e4' : ByteArray.toList ⟨(headB kind.toNat).toArray⟩ = headB kind.toNat := by rw [dl]
        rw [e4, e4']
        by_cases h3 : s.data.toList.take 4 = headB kind.toNat
        · rw [h3, bne_self_eq_false]
          refine Ev.step (fun k => by rw [posthorseref03_Open.j0, if_neg (by decide), if_pos (by decide), if_pos (by omega)]) ?_
          have e6 : (s.extract 0 508).data.toList = s.data.toList.take 508 := by rw [ext_list, List.drop_zero]
          have hs := sumOfL_lt (s.data.toList.take 508)
          refine Ev.bind (ref03_Sum_ev (s.extract 0 508) (by rw [ByteArray.size_extract]; omega)) ?_
          rw [e6, w64 (by omega) (by omega)]
          refine Ev.bind (ref01_Put_ev _ 4 (wf_of (by omega) (by omega))) ?_
          have e2 : lePutS (sumOfL (s.data.toList.take 508) : Int) 4 = ⟨(sumB (s.data.toList.take 508)).toArray⟩ := by
            unfold lePutS sumB
            rw [if_pos ⟨by omega, by omega, by omega, by show (sumOfL (s.data.toList.take 508) : Int) < 256 ^ 4; omega⟩]; rfl
          have e5 : (s.extract 508 s.size).toList = s.data.toList.drop 508 := by rw [dl, ext_list, List.take_of_length_le (by rw [dlen]; omega)]
          have e7 : ∀ l : List UInt8, ByteArray.toList ⟨(sumB l).toArray⟩ = sumB l := fun l => by rw [dl]
          rw [e2, e5, e7]
          have hc : s.data.toList.length = 512 ∧ 1 ≤ kind ∧ kind ≤ 255 ∧ s.data.toList.take 4 = headB kind.toNat := ⟨by omega, by omega, by omega, h3⟩
          have e8 : s.extract 4 508 = ⟨((s.data.toList.take 508).drop 4).toArray⟩ := by rw [deq, ext_list]
          by_cases h4 : s.data.toList.drop 508 = sumB (s.data.toList.take 508)
          · have eo : openS kind s.data.toList = (⟨((s.data.toList.take 508).drop 4).toArray⟩, none) := by unfold openS; rw [if_pos hc, if_pos h4]
            unfold refOpen
            rw [eo]
            refine Ev.from 0 fun k => ?_
            rw [if_pos h4.symm, if_pos (by decide), e8]; rfl
          · have eo : openS kind s.data.toList = (⟨#[]⟩, some 5) := by unfold openS; rw [if_pos hc, if_neg h4]
            unfold refOpen
            rw [eo]
            refine Ev.from 0 fun k => ?_
            rw [if_neg (fun h => h4 h.symm)]; rfl
        · have : (s.data.toList.take 4 != headB kind.toNat) = true := by simpa using h3
          rw [this]
          exact bad (fun h => h3 h.2.2.2)
  · simp only [if_neg (show ¬ (s.size : Int) = 512 by omega)]; exact bad (by omega)
theorem openS_code (kind : Int) (l : List UInt8) : (openS kind l).2 = none ∨ (openS kind l).2 = some 4 ∨ (openS kind l).2 = some 5 := by
  unfold openS
  split
  · split
    · exact .inl rfl
    · exact .inr (.inr rfl)
  · exact .inr (.inl rfl)

/-! ### bits07put -/
theorem orBit_nat (b : UInt8) (i : Nat) : (orBit b i).toNat = b.toNat ||| 2 ^ (i % 8) := by
  have h8 : i % 8 < 8 := Nat.mod_lt _ (by decide)
  have hp : 2 ^ (i % 8) < 256 := Nat.pow_lt_pow_right (a := 2) (by decide) h8
  unfold orBit
  rw [UInt8.toNat_or, UInt8.toNat_ofNat', Nat.mod_eq_of_lt (show 2 ^ (i % 8) < 2 ^ 8 by omega)]
theorem getD_setU (l : List UInt8) (i j : Nat) (b : UInt8) (hi : i < l.length) : (l.set i b).getD j 0 = if i = j then b else l.getD j 0 := by
  rw [List.getD_eq_getElem?_getD, List.getD_eq_getElem?_getD, List.getElem?_set]
  by_cases c : i = j
  · subst c; rw [if_pos rfl, if_pos hi, if_pos rfl]; rfl
  · rw [if_neg c, if_neg c]
theorem setBytes_bit (l : List Bool) : ∀ (i j t : Nat), i ≤ 4032 → t < 8 → ((setBytes l i).getD j 0).toNat.testBit t = (decide (8 * j + t < i) && l.getD (8 * j + t) false)
  | 0, j, t, _, _ => by
    have : (setBytes l 0).getD j 0 = 0 := by rw [setBytes, List.getD_eq_getElem?_getD, List.getElem?_replicate]; split <;> rfl
    rw [this]; simp
  | i + 1, j, t, hi, ht => by
    have ih := setBytes_bit l i j t (by omega) ht
    rw [setBytes]
    by_cases hb : l.getD i false = true
    · rw [if_pos hb, getD_setU _ _ _ _ (by rw [setBytes_len]; omega)]
      by_cases hj : i / 8 = j
      · subst hj
        rw [if_pos rfl, orBit_nat, Nat.testBit_or, ih, Nat.testBit_two_pow]
        by_cases h3 : i % 8 = t
        · have h4 : 8 * (i / 8) + t = i := by omega
          rw [h4, hb, decide_eq_true h3, decide_eq_true (show i < i + 1 by omega)]; simp
        · have h4 : (8 * (i / 8) + t < i + 1) ↔ (8 * (i / 8) + t < i) := by omega
          rw [decide_eq_false h3, Bool.or_false]
          simp only [h4]
      · rw [if_neg hj, ih]
        have h4 : (8 * j + t < i + 1) ↔ (8 * j + t < i) := by omega
        simp only [h4]
    · rw [if_neg hb, ih]
      by_cases h3 : 8 * j + t = i
      · rw [h3]
        have : l.getD i false = false := by revert hb; cases l.getD i false <;> simp
        rw [this]; simp
      · have h4 : (8 * j + t < i + 1) ↔ (8 * j + t < i) := by omega
        simp only [h4]
theorem setBytes_small (l : List Bool) (i : Nat) (hi : i ≤ 4032) : ((setBytes l i).getD (i / 8) 0).toNat < 2 ^ (i % 8) := by
  apply Nat.lt_pow_two_of_testBit
  intro t ht
  by_cases h8 : t < 8
  · rw [setBytes_bit l i (i / 8) t hi h8, decide_eq_false (by omega)]; rfl
  · have := ((setBytes l i).getD (i / 8) 0).toNat_lt
    exact Nat.testBit_lt_two_pow (Nat.lt_of_lt_of_le this (Nat.pow_le_pow_right (show 0 < 2 by decide) (show 8 ≤ t by omega)))
theorem orBit_add (b : UInt8) (i : Nat) (h : b.toNat < 2 ^ (i % 8)) : ((b.toNat : Int) + ((2 ^ (i % 8) : Nat) : Int) % 256) % 256 = ((orBit b i).toNat : Int) := by
  have h8 : i % 8 < 8 := Nat.mod_lt _ (by decide)
  have hp : 2 ^ (i % 8) ≤ 128 := Nat.pow_le_pow_right (n := 2) (by decide) (show i % 8 ≤ 7 by omega)
  have e := Nat.two_pow_add_eq_or_of_lt h 1
  rw [Nat.mul_one] at e
  rw [orBit_nat, Nat.or_comm, ← e]
  generalize 2 ^ (i % 8) = q at *
  omega
/-- The numbers of some bytes. -/
def numsOf (l : List UInt8) : List Int := l.map fun b => (b.toNat : Int)
theorem strOf_nums (l : List UInt8) : strOfNums (numsOf l) = ⟨l.toArray⟩ := by
  rw [deq]
  show (numsOf l).map (fun n : Int => UInt8.ofNat n.toNat) = l
  unfold numsOf
  rw [List.map_map]
  conv => rhs; rw [← List.map_id l]
  apply List.map_congr_left
  intro b _
  show UInt8.ofNat (b.toNat : Int).toNat = b
  simp
theorem rd_nums (l : List UInt8) (j : Nat) (hj : j < l.length) : rd (numsOf l) (j : Int) = ((l.getD j 0).toNat : Int) := by
  show (numsOf l).getD (j : Int).toNat 0 = _
  unfold numsOf
  rw [Int.toNat_natCast, List.getD_eq_getElem?_getD, List.getD_eq_getElem?_getD, List.getElem?_map, List.getElem?_eq_getElem hj]; rfl
/-- The sector of a set. -/
def setSeal (L : List Bool) : ByteArray := ⟨(sealL 5 (setBytes L L.length)).toArray⟩
theorem put_ev (L : List Bool) : Ev (fun k => bits_Set_Put.f k L) (setSeal L, none) := by
  unfold bits_Set_Put.f
  have e : sealS 5 ⟨(setBytes L L.length).toArray⟩ = (setSeal L, none) := by
    unfold sealS
    rw [if_neg (by omega), if_neg (show ¬ (⟨(setBytes L L.length).toArray⟩ : ByteArray).size > 504 by rw [← dlen]; show ¬ (setBytes L L.length).length > 504; rw [setBytes_len]; omega)]; rfl
  rw [← e]
  exact mark_Seal_ev 5 _
theorem refPut_ev (L : List Bool) (hL : L.length ≤ 4000) : Ev (fun k => posthorseref07_Put.f k L) (setSeal L) := by
  unfold posthorseref07_Put.f
  simp only [if_pos (show 504 ≤ 281474976710656 by decide)]
  have inner : ∀ (i : Nat) (x3 : List Int) (r : ByteArray), i < L.length → Ev (fun k => posthorseref07_Put.l1 k L x3 (i : Int) ((2 ^ (i % 8) : Nat) : Int) ((i % 8 : Nat) : Int)) r → Ev (fun k => posthorseref07_Put.l1 k L x3 (i : Int) 1 0) r := by
    intro i x3 r hi h
    have lp : ∀ (d j : Nat), j + d = i % 8 → Ev (fun k => posthorseref07_Put.l1 k L x3 (i : Int) ((2 ^ j : Nat) : Int) (j : Int)) r := by
      intro d
      induction d with
      | zero => intro j hj; obtain rfl : j = i % 8 := by omega
                exact h
      | succ d ih =>
        intro j hj
        refine Ev.step (fun k => ?_) (ih (j + 1) (by omega))
        have hp : 2 ^ j ≤ 128 := Nat.pow_le_pow_right (n := 2) (by decide) (show j ≤ 7 by omega)
        have e1 : Int.tmod (i : Int) 8 = ((i % 8 : Nat) : Int) := by rw [Int.tmod_eq_emod_of_nonneg (by omega)]; omega
        rw [Nat.pow_succ]
        generalize 2 ^ j = q at *
        rw [posthorseref07_Put.l1, e1, if_pos (by omega), w64 (by omega) (by omega), w64 (by omega) (by omega), show (q : Int) * 2 = ((q * 2 : Nat) : Int) by omega]
        rfl
    exact lp (i % 8) 0 (by omega)
  have lp : ∀ (d i : Nat), i + d = L.length → Ev (fun k => posthorseref07_Put.l0 k L (numsOf (setBytes L i)) (i : Int)) (setSeal L) := by
    intro d
    induction d with
    | zero =>
      intro i hi
      obtain rfl : i = L.length := by omega
      refine Ev.step (f := fun k => (posthorseref03_Seal.f k 5 (strOfNums (numsOf (setBytes L L.length)))).bind fun bt125 => (some bt125.1)) (fun k => by rw [posthorseref07_Put.l0, if_neg (by omega)]) ?_
      rw [strOf_nums]
      have e : refSeal 5 ⟨(setBytes L L.length).toArray⟩ = (setSeal L, 0) := by
        unfold refSeal
        rw [if_neg (by omega), if_neg (show ¬ (⟨(setBytes L L.length).toArray⟩ : ByteArray).size > 504 by rw [← dlen]; show ¬ (setBytes L L.length).length > 504; rw [setBytes_len]; omega)]; rfl
      refine Ev.bind (ref_Seal_ev 5 _) ?_
      rw [e]
      exact Ev.now _
    | succ d ih =>
      intro i hi
      have h := ih (i + 1) (by omega)
      by_cases hb : L.getD i false = true
      · rw [setBytes, if_pos hb] at h
        refine Ev.step (fun k => by rw [posthorseref07_Put.l0, if_pos (by omega), if_pos (by omega), rdOf_nat, if_pos hb]) ?_
        refine inner i _ _ (by omega) ?_
        refine Ev.step (fun k => ?_) h
        have e1 : Int.tmod (i : Int) 8 = ((i % 8 : Nat) : Int) := by rw [Int.tmod_eq_emod_of_nonneg (by omega)]; omega
        have e2 : Int.tdiv (i : Int) 8 = ((i / 8 : Nat) : Int) := by rw [Int.tdiv_eq_ediv_of_nonneg (by omega)]; omega
        have hl : i / 8 < (setBytes L i).length := by rw [setBytes_len]; omega
        rw [posthorseref07_Put.l1, e1, if_neg (by omega), e2, w64 (by omega) (by omega), if_pos (by omega), if_pos (by unfold numsOf; rw [List.length_map]; omega), Int.toNat_natCast, rd_nums _ _ hl, orBit_add _ _ (setBytes_small L i (by omega)), w64 (by omega) (by omega)]
        have : (numsOf (setBytes L i)).set (i / 8) ((orBit ((setBytes L i).getD (i / 8) 0) i).toNat : Int) = numsOf ((setBytes L i).set (i / 8) (orBit ((setBytes L i).getD (i / 8) 0) i)) := by
          unfold numsOf; rw [List.map_set]
        rw [this]; rfl
      · rw [setBytes, if_neg hb] at h
        refine Ev.step (fun k => ?_) h
        rw [posthorseref07_Put.l0, if_pos (by omega), if_pos (by omega), rdOf_nat, if_neg hb, w64 (by omega) (by omega)]; rfl
  have h := lp L.length 0 (by omega)
  have e : numsOf (setBytes L 0) = List.replicate 504 0 := by
    unfold numsOf
    rw [setBytes, List.map_replicate]; rfl
  rw [e] at h
  exact h
theorem bitAt_test (b : ByteArray) (i : Nat) : bitAt b i = (b.data.toList.getD (i / 8) 0).toNat.testBit (i % 8) := by
  unfold bitAt
  rw [Nat.testBit_eq_decide_div_mod_eq]
  by_cases h : (b.data.toList.getD (i / 8) 0).toNat / 2 ^ (i % 8) % 2 = 1
  · rw [h]; rfl
  · rw [decide_eq_false h]; exact beq_eq_false_iff_ne.2 h
theorem getLp_own (b : ByteArray) (L : List Bool) (hs : L.length ≤ 8 * b.size) (hb : ∀ i, i < 8 * b.size → bitAt b i = L.getD i false) : ∀ (k i : Nat) (M : List Bool), 8 * b.size < i + k → M.length = L.length → (∀ j, M.getD j false = (decide (j < i) && L.getD j false)) → getLp b k i M = some L
  | 0, i, M, hk, hl, hM => by
    rw [getLp]
    congr 1
    apply list_ext_getD hl
    intro j
    rw [hM]
    by_cases hj : j < i
    · rw [decide_eq_true hj]; rfl
    · rw [decide_eq_false hj, List.getD_eq_getElem?_getD, List.getElem?_eq_none (by omega)]; rfl
  | k + 1, i, M, hk, hl, hM => by
    by_cases c : i < 8 * b.size
    · rw [getLp, if_pos c, hb i c]
      by_cases hv : L.getD i false = true
      · have hi : i < L.length := by
          rcases Nat.lt_or_ge i L.length with h | h
          · exact h
          · rw [List.getD_eq_getElem?_getD, List.getElem?_eq_none h] at hv; cases hv
        have h0 : M.getD i false = !true := by rw [hM]; simp
        rw [if_pos hv, if_pos (turnE_one M i true 9 (by omega) h0), turnL_one M i true 9 (by omega) h0]
        refine getLp_own b L hs hb k (i + 1) _ (by omega) (by rw [List.length_set]; exact hl) (fun j => ?_)
        rw [getD_set_ _ _ _ _ (by omega), hM]
        by_cases hij : i = j
        · subst hij; rw [if_pos rfl, hv]; simp
        · rw [if_neg hij]
          have : (j < i + 1) ↔ (j < i) := by omega
          simp only [this]
      · rw [if_neg hv]
        refine getLp_own b L hs hb k (i + 1) M (by omega) hl (fun j => ?_)
        rw [hM]
        by_cases hij : i = j
        · subst hij
          have : L.getD i false = false := by revert hv; cases L.getD i false <;> simp
          rw [this]; simp
        · have : (j < i + 1) ↔ (j < i) := by omega
          simp only [this]
    · rw [getLp_end b (k + 1) i M (by omega)]
      congr 1
      apply list_ext_getD hl
      intro j
      rw [hM]
      by_cases hj : j < i
      · rw [decide_eq_true hj]; rfl
      · rw [decide_eq_false hj, List.getD_eq_getElem?_getD, List.getElem?_eq_none (by omega)]; rfl
theorem get_own_ev (L : List Bool) (h1 : 1 ≤ L.length) (h2 : L.length ≤ 4000) : Ev (fun k => bits_Get.f k (setSeal L) (L.length : Int)) (some L, 0) := by
  unfold bits_Get.f
  simp only [if_pos (show (1 : Int) ≤ (L.length : Int) ∧ (L.length : Int) ≤ 4000 by omega)]
  refine Ev.bind (mark_Open_ev 5 (setSeal L)) ?_
  have e : openS 5 (setSeal L).data.toList = (⟨(setBytes L L.length).toArray⟩, none) := by
    have := open_seal 5 (setBytes L L.length) (by decide) (by decide) (by rw [setBytes_len]; omega)
    rw [setBytes_len, Nat.sub_self, List.replicate_zero, List.append_nil] at this
    exact this
  rw [e]
  have hsz : (⟨(setBytes L L.length).toArray⟩ : ByteArray).size = 504 := by rw [← dlen]; exact setBytes_len _ _
  simp only [if_pos (show (⟨(setBytes L L.length).toArray⟩ : ByteArray).size ≤ 600 by rw [hsz]; decide)]
  have := getLp_own ⟨(setBytes L L.length).toArray⟩ L (by rw [hsz]; omega) (fun i hi => by
    rw [bitAt_test]
    show ((setBytes L L.length).getD (i / 8) 0).toNat.testBit (i % 8) = _
    rw [setBytes_bit L L.length (i / 8) (i % 8) (by omega) (Nat.mod_lt _ (by decide)), show 8 * (i / 8) + i % 8 = i by omega]
    by_cases h : i < L.length
    · rw [decide_eq_true h]; rfl
    · rw [decide_eq_false h, List.getD_eq_getElem?_getD, List.getElem?_eq_none (by omega)]; rfl) (8 * (⟨(setBytes L L.length).toArray⟩ : ByteArray).size + 1) 0 (List.replicate L.length false) (by omega) List.length_replicate (fun j => by rw [getD_rep]; simp)
  rw [Int.toNat_natCast, this]
  exact Ev.now _

/-! ### BitsGets -/
theorem turnE_past (L : List Bool) (i : Nat) (h : L.length ≤ i) : turnE L (i : Int) 1 true 9 = some 1 := by
  unfold turnE
  rw [if_neg (by omega)]
theorem getLp_len (b : ByteArray) : ∀ (k i : Nat) (M L : List Bool), getLp b k i M = some L → L.length = M.length
  | 0, i, M, L, h => by rw [getLp] at h; rw [Option.some.inj h]
  | k + 1, i, M, L, h => by
    rw [getLp] at h
    split at h
    · split at h
      · split at h
        · rw [getLp_len b k _ _ _ h]; exact turnL_len_ _ _ _ _ _ rfl
        · cases h
      · exact getLp_len b k _ _ _ h
    · rw [Option.some.inj h]
/-- What the document's Get makes of what Get's loop makes. -/
def refOf (r : Option (List Bool)) : List Bool × Int := match r with | some L => (L, 0) | none => ([], 4)
theorem refGet_loop (b : ByteArray) (hs : b.size ≤ 600) (n : Nat) (hn : n ≤ 4000) : ∀ (k i : Nat) (M : List Bool), 8 * b.size < i + k → i ≤ 8 * b.size → M.length = n → (∀ j, i ≤ j → M.getD j false = false) → Ev (fun q => posthorseref07_Get.l0 q (n : Int) b M (i : Int)) (refOf (getLp b k i M))
  | 0, i, M, hk, hi, _, _ => by omega
  | k + 1, i, M, hk, hi, hl, hM => by
    by_cases c : i < 8 * b.size
    · have hj : i / 8 < b.data.toList.length := by rw [dlen]; omega
      have e2 : Int.tdiv (i : Int) 8 = ((i / 8 : Nat) : Int) := by rw [Int.tdiv_eq_ediv_of_nonneg (by omega)]; omega
      have e1 : Int.tmod (i : Int) 8 = ((i % 8 : Nat) : Int) := by rw [Int.tmod_eq_emod_of_nonneg (by omega)]; omega
      have hbt := bt_at_nat b (i / 8) hj
      have hby : b.data.toList.getD (i / 8) 0 = b.data.toList[i / 8] := by rw [List.getD_eq_getElem?_getD, List.getElem?_eq_getElem hj]; rfl
      have hlt := (b.data.toList[i / 8]).toNat_lt
      refine Ev.step (fun q => by rw [posthorseref07_Get.l0, w64 (by omega) (by omega), if_pos (by omega), e2, w64 (by omega) (by omega), if_pos (by omega), if_pos (by rw [dlen] at hj; omega), hbt, w64 (by omega) (by omega)]) ?_
      have hbit : bitAt b i = ((b.data.toList[i / 8]).toNat / 2 ^ (i % 8) % 2 == 1) := by unfold bitAt; rw [hby]
      generalize (b.data.toList[i / 8]).toNat = y at *
      have lp : ∀ (d j : Nat), j + d = i % 8 → Ev (fun q => posthorseref07_Get.l1 q (n : Int) b M (i : Int) ((y / 2 ^ (i % 8) : Nat) : Int) ((i % 8 : Nat) : Int)) (refOf (getLp b (k + 1) i M)) → Ev (fun q => posthorseref07_Get.l1 q (n : Int) b M (i : Int) ((y / 2 ^ j : Nat) : Int) (j : Int)) (refOf (getLp b (k + 1) i M)) := by
        intro d
        induction d with
        | zero => intro j hj h; obtain rfl : j = i % 8 := by omega
                  exact h
        | succ d ih =>
          intro j hj h
          refine Ev.step (fun q => ?_) (ih (j + 1) (by omega) h)
          have hd : y / 2 ^ (j + 1) = y / 2 ^ j / 2 := by rw [Nat.pow_succ, Nat.div_div_eq_div_mul]
          have hle : y / 2 ^ j ≤ y := Nat.div_le_self _ _
          rw [hd]
          generalize y / 2 ^ j = z at *
          have e3 : Int.tdiv (z : Int) 2 = ((z / 2 : Nat) : Int) := by rw [Int.tdiv_eq_ediv_of_nonneg (by omega)]; omega
          rw [posthorseref07_Get.l1, e1, if_pos (by omega), e3, w64 (by omega) (by omega), w64 (by omega) (by omega)]
          rfl
      have fin : Ev (fun q => posthorseref07_Get.l1 q (n : Int) b M (i : Int) ((y / 2 ^ (i % 8) : Nat) : Int) ((i % 8 : Nat) : Int)) (refOf (getLp b (k + 1) i M)) := by
        generalize y / 2 ^ (i % 8) = z at *
        have e3 : Int.tmod (z : Int) 2 = ((z % 2 : Nat) : Int) := by rw [Int.tmod_eq_emod_of_nonneg (by omega)]; omega
        by_cases hz : z % 2 = 1
        · have hb1 : bitAt b i = true := by rw [hbit, hz]; rfl
          by_cases hin : i < n
          · have h0 : M.getD i false = !true := hM i (Nat.le_refl _)
            have eg : getLp b (k + 1) i M = getLp b k (i + 1) (M.set i true) := by rw [getLp, if_pos c, if_pos hb1, if_pos (turnE_one M i true 9 (by omega) h0), turnL_one M i true 9 (by omega) h0]
            rw [eg]
            refine Ev.step (fun q => ?_) (refGet_loop b hs n hn k (i + 1) (M.set i true) (by omega) (by omega) (by rw [List.length_set]; exact hl) (fun j hj => by rw [getD_set_ _ _ _ _ (by omega), if_neg (by omega)]; exact hM j (by omega)))
            rw [posthorseref07_Get.l1, e1, if_neg (by omega), e3, if_pos (by omega), if_neg (by omega), if_pos (by omega), if_pos (by omega), Int.toNat_natCast, w64 (by omega) (by omega)]
            rfl
          · have eg : getLp b (k + 1) i M = none := by rw [getLp, if_pos c, if_pos hb1, if_neg (by rw [turnE_past M i (by omega)]; simp)]
            rw [eg]
            refine Ev.from 1 fun q => ?_
            rw [posthorseref07_Get.l1, e1, if_neg (by omega), e3, if_pos (by omega), if_pos (by omega)]; rfl
        · have hb1 : ¬ bitAt b i = true := by rw [hbit]; simpa using hz
          have eg : getLp b (k + 1) i M = getLp b k (i + 1) M := by rw [getLp, if_pos c, if_neg hb1]
          rw [eg]
          refine Ev.step (fun q => ?_) (refGet_loop b hs n hn k (i + 1) M (by omega) (by omega) hl (fun j hj => hM j (by omega)))
          rw [posthorseref07_Get.l1, e1, if_neg (by omega), e3, if_neg (by omega), w64 (by omega) (by omega)]
          rfl
      have := lp (i % 8) 0 (by omega) fin
      rw [Nat.pow_zero, Nat.div_one] at this
      exact this
    · rw [getLp_end b (k + 1) i M (by omega)]
      refine Ev.from 1 fun q => ?_
      rw [posthorseref07_Get.l0, w64 (by omega) (by omega), if_neg (by omega)]; rfl
theorem openS_size (s : List UInt8) (h : (openS 5 s).2 = none) : (openS 5 s).1.size = 504 := by
  unfold openS at h ⊢
  split
  · rename_i hc
    rw [if_pos hc] at h
    split
    · rw [← dlen]
      show ((s.take 508).drop 4).length = 504
      rw [List.length_drop, List.length_take]; omega
    · rename_i h2
      rw [if_neg h2] at h; cases h
  · rename_i hc
    rw [if_neg hc] at h; cases h
theorem openS_err (s : List UInt8) (c : Int) (h : (openS 5 s).2 = some c) : (openS 5 s).1.size = 0 ∧ c ≠ 0 := by
  unfold openS at h ⊢
  split
  · rename_i hc
    rw [if_pos hc] at h
    split
    · rename_i h2
      rw [if_pos h2] at h; cases h
    · rename_i h2
      rw [if_neg h2] at h
      have := Option.some.inj h
      exact ⟨rfl, by rw [← this]; decide⟩
  · rename_i hc
    rw [if_neg hc] at h
    have := Option.some.inj h
    exact ⟨rfl, by rw [← this]; decide⟩
theorem gets_tail (s : ByteArray) (a1 : Int) : Ev (fun k => getsTail k s a1) true := by
  unfold getsTail
  by_cases hr : 1 ≤ a1 ∧ a1 ≤ 4000
  · obtain ⟨n, rfl⟩ := Int.eq_ofNat_of_zero_le (show 0 ≤ a1 by omega)
    have ho := mark_Open_ev 5 s
    have hro := ref_Open_ev 5 s
    unfold refOpen at hro
    have hj0 : ∀ r, Ev (fun k => (posthorseref03_Open.f k 5 s).bind fun bt127 => if bt127.2 = 0 then (if 0 ≤ (n : Int) then (if ((n : Int)).toNat ≤ 281474976710656 then posthorseref07_Get.l0 k (n : Int) bt127.1 (List.replicate ((n : Int)).toNat false) 0 else none) else none) else some (([] : List Bool), bt127.2)) r → Ev (fun k => posthorseref07_Get.f k s (n : Int)) r := fun r h => by
      unfold posthorseref07_Get.f
      simp only [if_neg (show ¬ (n : Int) < 1 by omega), decide_eq_false (show ¬ (n : Int) > 4000 by omega)]
      exact Ev.step (fun k => by rw [posthorseref07_Get.j0, if_neg (by decide)]) h
    cases he : (openS 5 s.data.toList).2 with
    | some c =>
      have hz := openS_err _ c he
      refine Ev.bind (a := (none, c)) ?_ ?_
      · unfold bits_Get.f
        simp only [if_pos hr]
        refine Ev.bind ho ?_
        rw [he]
        simp only [if_pos (show (openS 5 s.data.toList).1.size ≤ 600 by rw [hz.1]; decide)]
        exact Ev.now _
      · refine Ev.bind (a := ([], c)) (hj0 _ ?_) ?_
        · refine Ev.bind hro ?_
          rw [he]
          simp only [Option.getD_some, if_neg hz.2]
          exact Ev.now _
        · exact Ev.from 0 fun k => by show (if c = c ∧ ¬ c = 0 then some true else none) = some true; rw [if_pos ⟨rfl, hz.2⟩]
    | none =>
      have hz := openS_size _ he
      generalize hb : (openS 5 s.data.toList).1 = b at *
      have hlp := refGet_loop b (by omega) n (by omega) (8 * b.size + 1) 0 (List.replicate n false) (by omega) (by omega) List.length_replicate (fun j _ => getD_rep _ _)
      have hget : Ev (fun k => bits_Get.f k s (n : Int)) (match getLp b (8 * b.size + 1) 0 (List.replicate n false) with | some l => (some l, (0 : Int)) | none => (none, 4)) := by
        unfold bits_Get.f
        simp only [if_pos hr]
        refine Ev.bind ho ?_
        rw [he, hb]
        simp only [if_pos (show b.size ≤ 600 by omega)]
        rw [Int.toNat_natCast]
        cases getLp b (8 * b.size + 1) 0 (List.replicate n false) with
        | none => exact Ev.now _
        | some l => exact Ev.now _
      have href : Ev (fun k => posthorseref07_Get.f k s (n : Int)) (refOf (getLp b (8 * b.size + 1) 0 (List.replicate n false))) := by
        refine hj0 _ (Ev.bind hro ?_)
        rw [he]
        simp only [Option.getD_none, if_true, if_pos (show 0 ≤ (n : Int) by omega), if_pos (show ((n : Int)).toNat ≤ 281474976710656 by omega)]
        rw [Int.toNat_natCast]
        exact hlp
      cases hg : getLp b (8 * b.size + 1) 0 (List.replicate n false) with
      | none =>
        rw [hg] at hget href
        refine Ev.bind hget (Ev.bind href ?_)
        exact Ev.from 0 fun k => by simp [refOf]
      | some L =>
        rw [hg] at hget href
        have hL : L.length = n := by rw [getLp_len b _ _ _ _ hg, List.length_replicate]
        refine Ev.bind hget (Ev.bind href ?_)
        simp only [refOf, if_true]
        refine Ev.bind (put_ev L) ?_
        simp only [if_true]
        refine Ev.bind (free_ev L (by omega)) ?_
        simp only [if_true]
        refine Ev.bind (refPut_ev L (by omega)) ?_
        simp only [if_true]
        exact Ev.now _
  · refine Ev.bind (a := (none, 1)) ?_ ?_
    · unfold bits_Get.f
      simp only [if_neg hr]
      exact Ev.now _
    · refine Ev.bind (a := ([], 1)) ?_ ?_
      · unfold posthorseref07_Get.f
        by_cases h1 : a1 < 1
        · simp only [if_pos h1]
          exact Ev.from 1 fun k => by rw [posthorseref07_Get.j0, if_pos rfl]
        · simp only [if_neg h1, decide_eq_true (show a1 > 4000 by omega)]
          exact Ev.from 1 fun k => by rw [posthorseref07_Get.j0, if_pos rfl]
      · exact Ev.from 0 fun k => by simp
theorem BitsGets : BitsGets.Pure := by
  intro a0 a1 a2 ha0 _ _
  refine Ev.rounds (g := fun k => posthorselaw07_BitsGets.f k a0 a1 a2) ?_
  unfold posthorselaw07_BitsGets.f
  refine Ev.bind speaks07_ev ?_
  have hct : (a0.extract 0 (mn (a0.size : Int) 504).toNat).size ≤ 504 := by
    rw [ByteArray.size_extract]; unfold mn; split <;> omega
  generalize a0.extract 0 (mn (a0.size : Int) 504).toNat = ct at *
  refine Ev.bind (ref_Seal_ev 5 ct) ?_
  have e : refSeal 5 ct = (⟨(sealL 5 ct.data.toList).toArray⟩, 0) := by
    unfold refSeal
    rw [if_neg (by omega), if_neg (by omega)]; rfl
  rw [e]
  have hsz : (⟨(sealL 5 ct.data.toList).toArray⟩ : ByteArray).size = 512 := by
    rw [← dlen]; exact sealL_len 5 _ (by rw [dlen]; omega)
  simp only [if_pos hsz]
  exact gets_tail _ _

end Go.Proofs.YtngokgliagkohaaDoor.Pure
