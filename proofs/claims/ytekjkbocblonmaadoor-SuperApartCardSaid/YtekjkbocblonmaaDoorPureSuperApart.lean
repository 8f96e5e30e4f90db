/- SuperApart of layer 9: two layouts that are right have the same sector just where they are the same; for every input, no condition. -/
import Derived.Test.YtekjkbocblonmaaDoorVSuperApartx7
import Derived.OpenShut
import Derived.Lib.IndexEntry
namespace Go.Proofs.YtekjkbocblonmaaDoor.Pure
open Go Go.RowKit Go.Proofs.YtekjkbocblonmaaDoor.VSuperApart Go.Proofs.YtekjkbocblonmaaDoorW.PrintWords Go.Proofs.YtekjkbocblonmaaDoorW.PrintLast
set_option linter.unusedSimpArgs false
set_option linter.unusedVariables false

def SuperApart.Pure : Prop := ∀ (a0_0 : Int) (a0_1 : Int) (a1_0 : Int) (a1_1 : Int), (Lit.int .i64 a0_0).wf = true → (Lit.int .i64 a0_1).wf = true → (Lit.int .i64 a1_0).wf = true → (Lit.int .i64 a1_1).wf = true → ∃ k, posthorselaw09_SuperApart.f k a0_0 a0_1 a1_0 a1_1 = some true
/-! ### base -/
theorem dl (s : ByteArray) : s.toList = s.data.toList := Lib.toList_data s
theorem deq {a b : ByteArray} : a = b ↔ a.data.toList = b.data.toList := ⟨fun h => by rw [h], fun h => Go.WideShapes.bytes_inj h⟩
theorem dapp (a b : ByteArray) : (a ++ b).data.toList = a.data.toList ++ b.data.toList := by simp
theorem dlen (a : ByteArray) : a.data.toList.length = a.size := by rw [Array.length_toList]; rfl
theorem w64 {n : Int} (h0 : -9223372036854775808 ≤ n) (h1 : n ≤ 9223372036854775807) : wrap64 n = n := by unfold wrap64; omega
theorem i64b {n : Int} (h : (Lit.int .i64 n).wf = true) : -9223372036854775808 ≤ n ∧ n ≤ 9223372036854775807 := bounds_i64 h
theorem u8w (n : Int) : IntKind.u8.wrap n = n % 256 := IntKind.wrap_u8 n
theorem Ev.all {α : Type} {g : Nat → Option α} {r : α} (h : ∀ k, g k = some r) : Ev g r := ⟨0, fun k _ => h k⟩
theorem Ev.bindS {α β : Type} {g : Nat → Option α} {f : Nat → α → Option β} {a : α} {r : β} (h : Ev g a) (k : Ev (fun n => f n a) r) : Ev (fun n => (g n).bind (f n)) r := Ev.bind h k
theorem Ev.from {α : Type} {g : Nat → Option α} {r : α} (j : Nat) (h : ∀ k, g (k + j) = some r) : Ev g r := ⟨j, fun k hk => by have := h (k - j); rwa [Nat.sub_add_cancel hk] at this⟩
theorem Ev.to {α : Type} {g : Nat → Option α} {r : α} (h : Ev g r) : ∃ k, g k = some r := h.rounds
theorem Ev.at_ {α : Type} {g : Nat → Option α} {r : α} (hg : ∀ k, LeO (g k) (g (k + 1))) {j : Nat} (h : g j = some r) : Ev g r := Ev.of hg h

/-! ### le -/
/-- The bytes of a number, the lowest first. -/
def leB : Nat → Nat → List UInt8
  | 0, _ => []
  | s + 1, n => UInt8.ofNat (n % 256) :: leB s (n / 256)
theorem leB_len : ∀ s n, (leB s n).length = s
  | 0, _ => rfl
  | s + 1, n => by rw [leB, List.length_cons, leB_len s]
/-- .. and back. -/
def unB : List UInt8 → Nat
  | [] => 0
  | b :: r => b.toNat + 256 * unB r
theorem unB_leB : ∀ s n, unB (leB s n) = n % 256 ^ s
  | 0, n => by simp [leB, unB, Nat.mod_one]
  | s + 1, n => by
    rw [leB, unB, unB_leB s]
    have h1 : (UInt8.ofNat (n % 256)).toNat = n % 256 := by simp
    rw [h1, Nat.pow_succ', Nat.mod_mul]
theorem unB_lt : ∀ l : List UInt8, unB l < 256 ^ l.length
  | [] => by simp [unB]
  | b :: r => by
    have := unB_lt r
    have := b.toNat_lt
    rw [unB, List.length_cons, Nat.pow_succ]
    omega
theorem leB_unB : ∀ l : List UInt8, leB l.length (unB l) = l
  | [] => rfl
  | b :: r => by
    have hb := b.toNat_lt
    rw [unB, List.length_cons, leB]
    have h1 : (b.toNat + 256 * unB r) % 256 = b.toNat := by omega
    have h2 : (b.toNat + 256 * unB r) / 256 = unB r := by omega
    rw [h1, h2, leB_unB r]; simp
theorem leB_get : ∀ (s n j : Nat), j < s → (leB s n)[j]? = some (UInt8.ofNat (n / 256 ^ j % 256))
  | s + 1, n, 0, _ => by simp [leB]
  | s + 1, n, j + 1, h => by
    rw [leB, List.getElem?_cons_succ, leB_get s _ j (by omega), Nat.div_div_eq_div_mul, Nat.pow_succ']
/-- What Put answers. -/
def lePutS (n size : Int) : ByteArray := if 1 ≤ size ∧ size ≤ 7 ∧ 0 ≤ n ∧ n < 256 ^ size.toNat then ⟨(leB size.toNat n.toNat).toArray⟩ else ⟨#[]⟩
/-- The row that Put fills, behind i rounds. -/
def leRow (n : Int) (size i : Nat) : List Int := (List.range size).map fun j => if j < i then n / 256 ^ j % 256 else 0
theorem leRow_len (n : Int) (size i : Nat) : (leRow n size i).length = size := by simp [leRow]
theorem leRow_set (n : Int) (size i : Nat) (_ : i < size) : (leRow n size i).set i (n / 256 ^ i % 256) = leRow n size (i + 1) := by
  apply List.ext_getElem
  · simp [leRow]
  · intro j h1 h2
    simp only [leRow, List.length_map, List.length_range, List.length_set] at h1 h2
    rw [List.getElem_set]
    simp only [leRow, List.getElem_map, List.getElem_range]
    by_cases e : i = j
    · subst e; simp
    · rw [if_neg e]
      by_cases hj : j < i
      · rw [if_pos hj, if_pos (by omega)]
      · rw [if_neg hj, if_neg (by omega)]
theorem divcast (m s : Nat) : (m : Int) / 256 ^ s = ((m / 256 ^ s : Nat) : Int) := by
  rw [Int.natCast_ediv]; congr 1
theorem leRow_full (n : Nat) (size : Nat) : Go.strOfNums (leRow n size size) = ⟨(leB size n).toArray⟩ := by
  unfold Go.strOfNums
  congr 2
  apply List.ext_getElem?
  intro j
  by_cases hj : j < size
  · rw [leB_get _ _ _ hj, leRow, List.getElem?_map, List.getElem?_map, List.getElem?_range hj]
    simp only [Option.map_some, if_pos hj]
    have : ((n : Int) / 256 ^ j % 256).toNat = n / 256 ^ j % 256 := by
      have h1 : ((n : Int) / 256 ^ j % 256) = ((n / 256 ^ j % 256 : Nat) : Int) := by rw [divcast]; rfl
      rw [h1, Int.toNat_natCast]
    rw [this]
  · rw [List.getElem?_eq_none (by simp [leRow]; omega), List.getElem?_eq_none (by rw [leB_len]; omega)]
theorem shr_pow (n : Int) (i : Nat) (hi : i ≤ 7) : shr .i64 n (wrap64 (8 * (i : Int))) = n / 256 ^ i := by
  rw [w64 (by omega) (by omega)]
  unfold shr
  have h1 : min (8 * (i : Int)).toNat (IntKind.bits .i64) = 8 * i := by
    have h2 : (8 * (i : Int)).toNat = 8 * i := by omega
    rw [h2]; show min (8 * i) 64 = 8 * i; omega
  rw [h1]
  have h3 : (2 : Int) ^ (8 * i) = 256 ^ i := by
    have h := congrArg (fun x : Nat => (x : Int)) (Nat.pow_mul 2 8 i)
    simp only [Int.natCast_pow] at h
    exact h
  rw [h3]
theorem le_Put_loop (n : Int) (size : Nat) (hs : size ≤ 7) (h0 : 0 ≤ n) : ∀ (d i : Nat), i + d = size → Ev (fun k => le_Put.l0 k n (leRow n size i) (size : Int) (i : Int)) (Go.strOfNums (leRow n size size)) := by
  intro d
  induction d with
  | zero =>
    intro i hi
    obtain rfl : i = size := by omega
    refine Ev.from 1 fun k => ?_
    rw [le_Put.l0, if_neg (by omega)]
  | succ d ih =>
    intro i hi
    refine Ev.step (f := fun k => le_Put.l0 k n (leRow n size (i + 1)) (size : Int) ((i + 1 : Nat) : Int)) (fun k => ?_) (ih (i + 1) (by omega))
    have e1 : wrap64 (8 * (i : Int)) = 8 * (i : Int) := w64 (by omega) (by omega)
    have e2 : wrap64 ((i : Int) + 1) = ((i + 1 : Nat) : Int) := by rw [w64 (by omega) (by omega)]; omega
    rw [le_Put.l0, if_pos (by omega), if_pos (by rw [e1]; omega), if_pos (by omega), if_pos (by rw [leRow_len]; omega), e2, shr_pow n i (by omega), Int.toNat_natCast, leRow_set n size i (by omega)]
theorem le_Put_ev (n size : Int) (hn : (Lit.int .i64 n).wf = true) : Ev (fun k => le_Put.f k n size) (lePutS n size) := by
  have bn := i64b hn
  have bad : ∀ (n size : Int), ¬ (1 ≤ size ∧ size ≤ 7 ∧ 0 ≤ n ∧ n < 256 ^ size.toNat) → Ev (fun k => le_Put.j0 k n size true) (lePutS n size) := by
    intro n size h
    refine Ev.from 1 fun k => ?_
    rw [le_Put.j0, if_pos rfl, lePutS, if_neg h]
  unfold le_Put.f
  by_cases h1 : size < 1
  · simp only [if_pos h1]; exact bad n size (by omega)
  · by_cases h2 : size > 7
    · simp only [if_neg h1, if_pos h2]; exact bad n size (by omega)
    · by_cases h3 : n < 0
      · simp only [if_neg h1, if_neg h2, if_pos h3]; exact bad n size (by omega)
      · obtain ⟨s, rfl⟩ := Int.eq_ofNat_of_zero_le (show 0 ≤ size by omega)
        obtain ⟨m, rfl⟩ := Int.eq_ofNat_of_zero_le (show 0 ≤ n by omega)
        have e1 : wrap64 (8 * (s : Int)) = 8 * (s : Int) := w64 (by omega) (by omega)
        simp only [if_neg h1, if_neg h2, if_neg h3, if_pos (show 0 ≤ wrap64 (8 * (s : Int)) by rw [e1]; omega)]
        rw [shr_pow _ s (by omega)]
        by_cases h4 : m < 256 ^ s
        · have e3 : ((m : Int) / 256 ^ s != 0) = false := by
            rw [divcast, Nat.div_eq_of_lt h4]; rfl
          rw [e3]
          refine Ev.step (f := fun k => le_Put.l0 k (m : Int) (leRow m s 0) (s : Int) ((0 : Nat) : Int)) (fun k => ?_) ?_
          · rw [le_Put.j0, if_neg (by decide), if_pos (by omega), if_pos (by omega)]
            have e4 : (List.replicate (s : Int).toNat 0 : List Int) = leRow m s 0 := by
              rw [Int.toNat_natCast]
              apply List.ext_getElem
              · simp [leRow]
              · intro j h1 h2; simp [leRow]
            simp only [Option.bind_some, e4, leRow_len]
            rfl
          · have := le_Put_loop (m : Int) s (by omega) (by omega) s 0 (by omega)
            rw [leRow_full] at this
            have e5 : lePutS (m : Int) (s : Int) = ⟨(leB s m).toArray⟩ := by
              unfold lePutS
              rw [if_pos ⟨by omega, by omega, by omega, by rw [Int.toNat_natCast]; have h' := Int.ofNat_lt.2 h4; rw [Int.natCast_pow] at h'; exact h'⟩, Int.toNat_natCast, Int.toNat_natCast]
            rw [e5]; exact this
        · have e3 : ((m : Int) / 256 ^ s != 0) = true := by
            rw [divcast, bne_iff_ne]
            have : 0 < m / 256 ^ s := Nat.div_pos (by omega) (Nat.pow_pos (by decide))
            omega
          rw [e3]
          refine bad _ _ ?_
          rw [Int.toNat_natCast]
          intro ⟨_, _, _, h⟩
          have h' : ((m : Nat) : Int) < ((256 ^ s : Nat) : Int) := by rw [Int.natCast_pow]; exact h
          exact h4 (Int.ofNat_lt.1 h')

/-! ### bt -/
theorem bt_at_nat (s : ByteArray) (i : Nat) (h : i < s.data.toList.length) : bt s (i : Int) = ((s.data.toList[i]).toNat : Int) := by
  have h' : i < s.size := by rw [← dlen]; exact h
  unfold bt
  rw [Int.toNat_natCast, dif_pos h', Array.getElem_toList]; rfl

/-! ### markseal -/
theorem sumOfL_lt (l : List UInt8) : sumOfL l < 4294967296 := by unfold sumOfL; omega
/-- The sum's bytes. -/
def sumB (l : List UInt8) : List UInt8 := leB 4 (sumOfL l)
/-- The head's bytes. -/
def headB (kind : Nat) : List UInt8 := [80, 72, UInt8.ofNat (kind % 256), 0]
theorem wf_of {n : Int} (h0 : -9223372036854775808 ≤ n) (h1 : n ≤ 9223372036854775807) : (Lit.int .i64 n).wf = true := by
  have := wrap64_wf n
  rwa [w64 h0 h1] at this
theorem sumOf_ev (s : ByteArray) (hs : s.size ≤ 140737488355328) : Ev (fun k => mark_sumOf.f k s) ⟨(sumB s.data.toList).toArray⟩ := by
  have h := sumOfL_lt s.data.toList
  unfold mark_sumOf.f mark_Sum.f
  rw [if_pos hs]
  refine Ev.bind (Ev.now _) ?_
  rw [w64 (by omega) (by omega)]
  have e : lePutS (sumOfL s.data.toList : Int) 4 = ⟨(sumB s.data.toList).toArray⟩ := by
    unfold lePutS sumB
    rw [if_pos ⟨by omega, by omega, by omega, by show (sumOfL s.data.toList : Int) < 256 ^ 4; omega⟩]; rfl
  rw [← e]
  refine Ev.bind (le_Put_ev _ 4 (wf_of (by omega) (by omega))) (Ev.now _)
theorem head_ev (kind : Int) (h1 : 1 ≤ kind) (h2 : kind ≤ 255) : Ev (fun k => mark_head.f k kind) ⟨(headB kind.toNat).toArray⟩ := by
  have e : lePutS kind 1 = ⟨#[UInt8.ofNat (kind.toNat % 256)]⟩ := by
    unfold lePutS
    rw [if_pos ⟨by omega, by omega, by omega, by show kind < 256 ^ 1; omega⟩]; rfl
  unfold mark_head.f
  refine Ev.bind (le_Put_ev kind 1 (wf_of (by omega) (by omega))) ?_
  rw [e]
  have es : (⟨#[UInt8.ofNat (kind.toNat % 256)]⟩ : ByteArray).size = 1 := rfl
  rw [if_pos (by rw [es]; decide), if_pos (by rw [ByteArray.size_append, es]; decide)]
  have e2 : (⟨#[80, 72]⟩ : ByteArray) ++ ⟨#[UInt8.ofNat (kind.toNat % 256)]⟩ ++ ⟨#[0]⟩ = ⟨(headB kind.toNat).toArray⟩ := by
    rw [deq]; simp [dapp, headB]
  rw [e2]; exact Ev.now _
theorem repeat_zero (c : Int) (h0 : 0 ≤ c) (h1 : c ≤ 140737488355328) : strings_Repeat.f ⟨#[0]⟩ c = some (zerosB c.toNat) := by
  unfold strings_Repeat.f
  rw [if_pos ⟨h0, by show ((1 : Nat) : Int) * c ≤ _; omega, by omega⟩, show (⟨#[0]⟩ : ByteArray).data.toList = [0] from rfl, repeat0]; rfl
/-- What is summed. -/
def bodyL (kind : Nat) (body : List UInt8) : List UInt8 := headB kind ++ body ++ List.replicate (504 - body.length) 0
/-- A sealed sector. -/
def sealL (kind : Nat) (body : List UInt8) : List UInt8 := bodyL kind body ++ sumB (bodyL kind body)
/-- What Seal answers. -/
def sealS (kind : Int) (body : ByteArray) : ByteArray × Option Int := if kind < 1 ∨ kind > 255 then (⟨#[]⟩, some 1) else if body.size > 504 then (⟨#[]⟩, some 10) else (⟨(sealL kind.toNat body.data.toList).toArray⟩, none)
theorem bodyL_len (kind : Nat) (body : List UInt8) (h : body.length ≤ 504) : (bodyL kind body).length = 508 := by
  simp [bodyL, headB]; omega
theorem sealL_len (kind : Nat) (body : List UInt8) (h : body.length ≤ 504) : (sealL kind body).length = 512 := by
  unfold sealL
  rw [List.length_append, bodyL_len kind body h]; rfl
theorem mark_Seal_ev (kind : Int) (body : ByteArray) : Ev (fun k => mark_Seal.f k kind body) (sealS kind body) := by
  have bad : kind < 1 ∨ kind > 255 → Ev (fun k => mark_Seal.j0 k kind body true) (sealS kind body) := fun h => by
    refine Ev.from 1 fun k => ?_
    rw [mark_Seal.j0, if_pos rfl, sealS, if_pos h]
  unfold mark_Seal.f
  by_cases h1 : kind < 1
  · simp only [if_pos h1]; exact bad (.inl h1)
  · simp only [if_neg h1]
    by_cases h2 : kind > 255
    · rw [decide_eq_true h2]; exact bad (.inr h2)
    · rw [decide_eq_false h2]
      unfold sealS
      rw [if_neg (by omega)]
      refine Ev.step (fun k => by rw [mark_Seal.j0, if_neg (by decide)]) ?_
      by_cases h3 : body.size > 504
      · simp only [if_pos (show (body.size : Int) > 504 by omega), if_pos h3]; exact Ev.now _
      · simp only [if_neg (show ¬ (body.size : Int) > 504 by omega), if_neg h3]
        have hs1 : (⟨(headB kind.toNat).toArray⟩ : ByteArray).size = 4 := rfl
        refine Ev.bind (head_ev kind (by omega) (by omega)) ?_
        simp only [if_pos (show (⟨(headB kind.toNat).toArray⟩ : ByteArray).size + body.size ≤ 9223372036854775807 by rw [hs1]; omega)]
        rw [w64 (by omega) (by omega), repeat_zero _ (by omega) (by omega)]
        refine Ev.bind (Ev.now _) ?_
        have hz : (zerosB (504 - (body.size : Int)).toNat).size = 504 - body.size := by rw [zerosB_size]; omega
        have e : (⟨(headB kind.toNat).toArray⟩ : ByteArray) ++ body ++ zerosB (504 - (body.size : Int)).toNat = ⟨(bodyL kind.toNat body.data.toList).toArray⟩ := by
          rw [deq, dapp, dapp]
          show headB kind.toNat ++ body.data.toList ++ List.replicate (504 - (body.size : Int)).toNat 0 = bodyL kind.toNat body.data.toList
          unfold bodyL
          rw [dlen, show (504 - (body.size : Int)).toNat = 504 - body.size by omega]
        have es : (⟨(bodyL kind.toNat body.data.toList).toArray⟩ : ByteArray).size = 508 := by
          rw [← dlen]; exact bodyL_len _ _ (by rw [dlen]; omega)
        simp only [if_pos (show ((⟨(headB kind.toNat).toArray⟩ : ByteArray) ++ body).size + (zerosB (504 - (body.size : Int)).toNat).size ≤ 9223372036854775807 by rw [ByteArray.size_append, hs1, hz]; omega)]
        rw [e]
        refine Ev.bind (sumOf_ev _ (by rw [es]; decide)) ?_
        have e4 : ∀ l : List UInt8, (⟨(sumB l).toArray⟩ : ByteArray).size = 4 := fun l => rfl
        simp only [if_pos (show (⟨(bodyL kind.toNat body.data.toList).toArray⟩ : ByteArray).size + (⟨(sumB (bodyL kind.toNat body.data.toList)).toArray⟩ : ByteArray).size ≤ 9223372036854775807 by rw [es, e4]; decide)]
        have e5 : (⟨(bodyL kind.toNat body.data.toList).toArray⟩ : ByteArray) ++ ⟨(sumB (bodyL kind.toNat body.data.toList)).toArray⟩ = ⟨(sealL kind.toNat body.data.toList).toArray⟩ := by
          rw [deq, dapp]; rfl
        rw [e5]; exact Ev.now _

/-! ### super09 -/
/-- May there be such a layout? -/
def rightL (s j : Int) : Bool := decide (8 ≤ j ∧ j ≤ 512 ∧ s ≤ 2048 ∧ 7 + j ≤ s)
theorem super_right (s j : Int) : super_Right.f s j = some (rightL s j) := by
  unfold super_Right.f rightL
  by_cases h1 : j ≥ 8
  · rw [if_pos h1]
    by_cases h2 : j ≤ 512
    · rw [if_pos h2]
      by_cases h3 : s ≤ 2048
      · rw [if_pos h3, w64 (n := 1 + j) (by omega) (by omega), w64 (n := 1 + j + 1) (by omega) (by omega), w64 (by omega) (by omega)]
        congr 1; exact decide_eq_decide.2 (by omega)
      · rw [if_neg h3]; congr 1; exact (decide_eq_false (by omega)).symm
    · rw [if_neg h2]; congr 1; exact (decide_eq_false (by omega)).symm
  · rw [if_neg h1]; congr 1; exact (decide_eq_false (by omega)).symm
/-- A layout's bytes. -/
def layB (s j : Int) : List UInt8 := leB 2 s.toNat ++ leB 2 j.toNat
/-- What Put answers. -/
def supPut (s j : Int) : ByteArray × Option Int := if rightL s j = true then (⟨(sealL 1 (layB s j)).toArray⟩, none) else (⟨#[]⟩, some 1)
theorem right_range {s j : Int} (h : rightL s j = true) : 8 ≤ j ∧ j ≤ 512 ∧ s ≤ 2048 ∧ 7 + j ≤ s := by simpa [rightL] using h
theorem lay_put (s j : Int) (h : rightL s j = true) : lePutS s 2 ++ lePutS j 2 = ⟨(layB s j).toArray⟩ := by
  obtain ⟨h1, h2, h3, h4⟩ := right_range h
  unfold lePutS layB
  rw [if_pos ⟨by omega, by omega, by omega, by show s < 256 ^ 2; omega⟩, if_pos ⟨by omega, by omega, by omega, by show j < 256 ^ 2; omega⟩]
  rw [deq, dapp]; rfl
theorem lay_size (s j : Int) : (⟨(layB s j).toArray⟩ : ByteArray).size = 4 := by
  rw [← dlen]
  show (layB s j).length = 4
  unfold layB; rw [List.length_append, leB_len, leB_len]
theorem put_size (n : Int) : (lePutS n 2).size ≤ 2 := by
  unfold lePutS
  split
  · rw [← dlen]; simp [leB_len]
  · rw [← dlen]; simp
theorem super_put_ev (s j : Int) (hs : (Lit.int .i64 s).wf = true) (hj : (Lit.int .i64 j).wf = true) : Ev (fun k => super_Put.f k s j) (supPut s j) := by
  unfold super_Put.f supPut
  rw [super_right]
  cases h : rightL s j with
  | false => exact Ev.now _
  | true =>
    simp only [Option.bind_some, if_true]
    refine Ev.bind (le_Put_ev s 2 hs) (Ev.bind (le_Put_ev j 2 hj) ?_)
    have h1 := put_size s
    have h2 := put_size j
    simp only [if_pos (show (lePutS s 2).size + (lePutS j 2).size ≤ 9223372036854775807 by omega)]
    rw [lay_put s j h]
    have hse := mark_Seal_ev 1 ⟨(layB s j).toArray⟩
    unfold sealS at hse
    rw [if_neg (by omega), if_neg (by rw [lay_size]; omega)] at hse
    exact Ev.bind hse (Ev.now _)
theorem speaks_ev : Ev (fun _ => posthorselaw09_speaks.f) true := Ev.all fun _ => by decide +kernel

/-! ### andm -/
theorem andm (a : Int) (m : Nat) (hm : m < 4611686018427387904) (n : Nat) (hn : 2 ^ n = m + 1) : Go.bits .and .i64 a (m : Int) = a % ((m + 1 : Nat) : Int) := by
  have ha : (BitVec.ofInt 64 a).toNat = (a % 18446744073709551616).toNat := by
    rw [BitVec.toNat_ofInt]; rfl
  show IntKind.i64.wrap ((BitVec.ofInt 64 a &&& BitVec.ofInt 64 (m : Int)).toNat : Int) = _
  rw [BitVec.toNat_and, show (BitVec.ofInt 64 (m : Int)).toNat = m by rw [BitVec.ofInt_natCast, BitVec.toNat_ofNat, Nat.mod_eq_of_lt (by omega)], ha]
  have e : (a % 18446744073709551616).toNat &&& m = (a % 18446744073709551616).toNat % (m + 1) := by
    rw [← hn, show m = 2 ^ n - 1 by omega]; exact Nat.and_two_pow_sub_one_eq_mod _ n
  rw [e]
  have hlt : (a % 18446744073709551616).toNat % (m + 1) < m + 1 := Nat.mod_lt _ (by omega)
  have hdv : ((m + 1 : Nat) : Int) ∣ 18446744073709551616 := by
    rw [← hn]
    have h64 : n ≤ 64 := by
      rcases Nat.lt_or_ge 64 n with h | h
      · have := Nat.pow_le_pow_right (show 0 < 2 by decide) (show 65 ≤ n by omega)
        omega
      · exact h
    have : ((2 ^ n : Nat) : Int) ∣ ((2 ^ 64 : Nat) : Int) := Int.natCast_dvd_natCast.2 (Nat.pow_dvd_pow 2 h64)
    exact this
  have e2 : (((a % 18446744073709551616).toNat % (m + 1) : Nat) : Int) = a % ((m + 1 : Nat) : Int) := by
    rw [Int.natCast_emod, Int.toNat_of_nonneg (by omega), Int.emod_emod_of_dvd _ hdv]
  rw [e2]
  have h1 := Int.emod_nonneg a (show ((m + 1 : Nat) : Int) ≠ 0 by omega)
  have h2 := Int.emod_lt_of_pos a (show (0 : Int) < ((m + 1 : Nat) : Int) by omega)
  have hm1 : ((m + 1 : Nat) : Int) = (m : Int) + 1 := by omega
  rw [hm1] at h1 h2 ⊢
  generalize a % ((m : Int) + 1) = q at *
  simp only [IntKind.wrap, IntKind.bits, IntKind.signed]
  simp; omega

/-! ### SuperApart -/
theorem lay_inj {s j t i : Int} (h1 : rightL s j = true) (h2 : rightL t i = true) (h : sealL 1 (layB s j) = sealL 1 (layB t i)) : s = t ∧ j = i := by
  obtain ⟨a1, a2, a3, a4⟩ := right_range h1
  obtain ⟨b1, b2, b3, b4⟩ := right_range h2
  have h4 : (layB s j) = (layB t i) := by
    have e1 : ∀ s j, ((sealL 1 (layB s j)).drop 4).take 4 = layB s j := fun s j => by
      have hl : (layB s j).length = 4 := by unfold layB; rw [List.length_append, leB_len, leB_len]
      unfold sealL bodyL
      rw [List.append_assoc, List.append_assoc, show (4 : Nat) = (headB 1).length from rfl, List.drop_left, show (headB 1).length = (layB s j).length by rw [hl]; rfl, List.take_left]
    rw [← e1 s j, ← e1 t i, h]
  unfold layB at h4
  obtain ⟨h5, h6⟩ := List.append_inj h4 (by rw [leB_len, leB_len])
  have h7 := congrArg unB h5
  have h8 := congrArg unB h6
  rw [unB_leB, unB_leB, Nat.mod_eq_of_lt (by omega), Nat.mod_eq_of_lt (by omega)] at h7 h8
  omega
theorem SuperApart : SuperApart.Pure := by
  intro a b c d _ _ _ _
  refine Ev.rounds (g := fun k => posthorselaw09_SuperApart.f k a b c d) ?_
  unfold posthorselaw09_SuperApart.f
  refine Ev.bind speaks_ev ?_
  simp only [if_true]
  have A := andm a 1023 (by decide) 10 rfl
  have B := andm b 255 (by decide) 8 rfl
  have C := andm c 1023 (by decide) 10 rfl
  have D := andm d 255 (by decide) 8 rfl
  rw [show ((1023 : Nat) : Int) = 1023 from rfl] at A C
  rw [show ((255 : Nat) : Int) = 255 from rfl] at B D
  rw [A, B, C, D]
  have ra := Int.emod_nonneg a (show ((1023 + 1 : Nat) : Int) ≠ 0 by omega)
  have ra2 := Int.emod_lt_of_pos a (show (0 : Int) < ((1023 + 1 : Nat) : Int) by omega)
  have rb := Int.emod_nonneg b (show ((255 + 1 : Nat) : Int) ≠ 0 by omega)
  have rb2 := Int.emod_lt_of_pos b (show (0 : Int) < ((255 + 1 : Nat) : Int) by omega)
  have rc := Int.emod_nonneg c (show ((1023 + 1 : Nat) : Int) ≠ 0 by omega)
  have rc2 := Int.emod_lt_of_pos c (show (0 : Int) < ((1023 + 1 : Nat) : Int) by omega)
  have rd := Int.emod_nonneg d (show ((255 + 1 : Nat) : Int) ≠ 0 by omega)
  have rd2 := Int.emod_lt_of_pos d (show (0 : Int) < ((255 + 1 : Nat) : Int) by omega)
  generalize a % ((1023 + 1 : Nat) : Int) = x at *
  generalize b % ((255 + 1 : Nat) : Int) = y at *
  generalize c % ((1023 + 1 : Nat) : Int) = z at *
  generalize d % ((255 + 1 : Nat) : Int) = v at *
  rw [w64 (n := 600 + x) (by omega) (by omega), w64 (n := 8 + y) (by omega) (by omega), w64 (n := 600 + z) (by omega) (by omega), w64 (n := 8 + v) (by omega) (by omega)]
  have h1 : rightL (600 + x) (8 + y) = true := decide_eq_true (by omega)
  have h2 : rightL (600 + z) (8 + v) = true := decide_eq_true (by omega)
  refine Ev.bind (super_put_ev _ _ (wf_of (by omega) (by omega)) (wf_of (by omega) (by omega))) (Ev.bind (super_put_ev _ _ (wf_of (by omega) (by omega)) (wf_of (by omega) (by omega))) ?_)
  unfold supPut
  rw [if_pos h1, if_pos h2]
  simp only [Option.isNone_none, if_true]
  have e : ((ByteArray.toList ⟨(sealL 1 (layB (600 + x) (8 + y))).toArray⟩ == ByteArray.toList ⟨(sealL 1 (layB (600 + z) (8 + v))).toArray⟩) == ((600 + x == 600 + z) && (8 + y == 8 + v))) = true := by
    rw [dl, dl, beq_iff_eq, Bool.eq_iff_iff]
    simp only [beq_iff_eq, Bool.and_eq_true]
    constructor
    · intro h; exact lay_inj h1 h2 h
    · rintro ⟨h3, h4⟩; rw [h3, h4]
  rw [e]; exact Ev.now _

end Go.Proofs.YtekjkbocblonmaaDoor.Pure
