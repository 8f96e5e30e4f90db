/- SuperPuts of layer 9: any layout as a sector, or why it is none, and back; for every input, no condition. -/
import Derived.Test.YtekjkbocblonmaaDoorVSuperPutsx16
import Derived.OpenShut
import Derived.Lib.IndexEntry
namespace Go.Proofs.YtekjkbocblonmaaDoor.Pure
open Go Go.RowKit Go.Proofs.YtekjkbocblonmaaDoor.VSuperPuts Go.Proofs.YtekjkbocblonmaaDoorW.PrintWords Go.Proofs.YtekjkbocblonmaaDoorW.PrintLast
set_option linter.unusedSimpArgs false
set_option linter.unusedVariables false

def SuperPuts.Pure : Prop := ∀ (a0 : Int) (a1 : Int), (Lit.int .i64 a0).wf = true → (Lit.int .i64 a1).wf = true → ∃ k, posthorselaw09_SuperPuts.f k a0 a1 = some true
/-! ### base -/
theorem dl (s : ByteArray) : s.toList = s.data.toList := Lib.toList_data s
theorem deq {a b : ByteArray} : a = b ↔ a.data.toList = b.data.toList := ⟨fun h => by rw [h], fun h => Go.WideShapes.bytes_inj h⟩
theorem dapp (a b : ByteArray) : (a ++ b).data.toList = a.data.toList ++ b.data.toList := by simp
theorem dlen (a : ByteArray) : a.data.toList.length = a.size := by rw [Array.length_toList]; rfl
theorem w64 {n : Int} (h0 : -9223372036854775808 ≤ n) (h1 : n ≤ 9223372036854775807) : wrap64 n = n := by unfold wrap64; omega
theorem i64b {n : Int} (h : (Lit.int .i64 n).wf = true) : -9223372036854775808 ≤ n ∧ n ≤ 9223372036854775807 := bounds_i64 h
theorem u8w (n : Int) : IntKind.u8.wrap n = n % 256 := IntKind.wrap_u8 n
theorem Ev.all {α : Type} {g : Nat → Option α} {r : α} (h : ∀ k, g k = some r) : Ev g r := ⟨0, fun k _ => h k⟩
theorem Ev.bindS {α β : Type} {g : Nat → Option α} {f : Nat → α → Option β} {a : α} {r : β} (h : Ev g a) (k : Ev (fun n => f n a) r) : Ev (fun n => (g n).bind (f n)) r := Ev.bind h k
theorem Ev.from {α : Type} {g : Nat → Option α} {r : α} (j : Nat) (h : ∀ k, g (k + j) = some r) : Ev g r := ⟨j, fun k hk => by have := h (k - j); rwa [Nat.sub_add_cancel hk] at this⟩
theorem Ev.to {α : Type} {g : Nat → Option α} {r : α} (h : Ev g r) : ∃ k, g k = some r := h.rounds
theorem Ev.at_ {α : Type} {g : Nat → Option α} {r : α} (hg : ∀ k, LeO (g k) (g (k + 1))) {j : Nat} (h : g j = some r) : Ev g r := Ev.of hg h

/-! ### le -/
/-- The bytes of a number, the lowest first. -/
def leB : Nat → Nat → List UInt8
  | 0, _ => []
  | s + 1, n => UInt8.ofNat (n % 256) :: leB s (n / 256)
theorem leB_len : ∀ s n, (leB s n).length = s
  | 0, _ => rfl
  | s + 1, n => by rw [leB, List.length_cons, leB_len s]
/-- .. and back. -/
def unB : List UInt8 → Nat
  | [] => 0
  | b :: r => b.toNat + 256 * unB r
theorem unB_leB : ∀ s n, unB (leB s n) = n % 256 ^ s
  | 0, n => by simp [leB, unB, Nat.mod_one]
  | s + 1, n => by
    rw [leB, unB, unB_leB s]
    have h1 : (UInt8.ofNat (n % 256)).toNat = n % 256 := by simp
    rw [h1, Nat.pow_succ', Nat.mod_mul]
theorem unB_lt : ∀ l : List UInt8, unB l < 256 ^ l.length
  | [] => by simp [unB]
  | b :: r => by
    have := unB_lt r
    have := b.toNat_lt
    rw [unB, List.length_cons, Nat.pow_succ]
    omega
theorem leB_unB : ∀ l : List UInt8, leB l.length (unB l) = l
  | [] => rfl
  | b :: r => by
    have hb := b.toNat_lt
    rw [unB, List.length_cons, leB]
    have h1 : (b.toNat + 256 * unB r) % 256 = b.toNat := by omega
    have h2 : (b.toNat + 256 * unB r) / 256 = unB r := by omega
    rw [h1, h2, leB_unB r]; simp
theorem leB_get : ∀ (s n j : Nat), j < s → (leB s n)[j]? = some (UInt8.ofNat (n / 256 ^ j % 256))
  | s + 1, n, 0, _ => by simp [leB]
  | s + 1, n, j + 1, h => by
    rw [leB, List.getElem?_cons_succ, leB_get s _ j (by omega), Nat.div_div_eq_div_mul, Nat.pow_succ']
/-- What Put answers. -/
def lePutS (n size : Int) : ByteArray := if 1 ≤ size ∧ size ≤ 7 ∧ 0 ≤ n ∧ n < 256 ^ size.toNat then ⟨(leB size.toNat n.toNat).toArray⟩ else ⟨#[]⟩
/-- The row that Put fills, behind i rounds. -/
def leRow (n : Int) (size i : Nat) : List Int := (List.range size).map fun j => if j < i then n / 256 ^ j % 256 else 0
theorem leRow_len (n : Int) (size i : Nat) : (leRow n size i).length = size := by simp [leRow]
theorem leRow_set (n : Int) (size i : Nat) (_ : i < size) : (leRow n size i).set i (n / 256 ^ i % 256) = leRow n size (i + 1) := by
  apply List.ext_getElem
  · simp [leRow]
  · intro j h1 h2
    simp only [leRow, List.length_map, List.length_range, List.length_set] at h1 h2
    rw [List.getElem_set]
    simp only [leRow, List.getElem_map, List.getElem_range]
    by_cases e : i = j
    · subst e; simp
    · rw [if_neg e]
      by_cases hj : j < i
      · rw [if_pos hj, if_pos (by omega)]
      · rw [if_neg hj, if_neg (by omega)]
theorem divcast (m s : Nat) : (m : Int) / 256 ^ s = ((m / 256 ^ s : Nat) : Int) := by
  rw [Int.natCast_ediv]; congr 1
theorem leRow_full (n : Nat) (size : Nat) : Go.strOfNums (leRow n size size) = ⟨(leB size n).toArray⟩ := by
  unfold Go.strOfNums
  congr 2
  apply List.ext_getElem?
  intro j
  by_cases hj : j < size
  · rw [leB_get _ _ _ hj, leRow, List.getElem?_map, List.getElem?_map, List.getElem?_range hj]
    simp only [Option.map_some, if_pos hj]
    have : ((n : Int) / 256 ^ j % 256).toNat = n / 256 ^ j % 256 := by
      have h1 : ((n : Int) / 256 ^ j % 256) = ((n / 256 ^ j % 256 : Nat) : Int) := by rw [divcast]; rfl
      rw [h1, Int.toNat_natCast]
    rw [this]
  · rw [List.getElem?_eq_none (by simp [leRow]; omega), List.getElem?_eq_none (by rw [leB_len]; omega)]
theorem shr_pow (n : Int) (i : Nat) (hi : i ≤ 7) : shr .i64 n (wrap64 (8 * (i : Int))) = n / 256 ^ i := by
  rw [w64 (by omega) (by omega)]
  unfold shr
  have h1 : min (8 * (i : Int)).toNat (IntKind.bits .i64) = 8 * i := by
    have h2 : (8 * (i : Int)).toNat = 8 * i := by omega
    rw [h2]; show min (8 * i) 64 = 8 * i; omega
  rw [h1]
  have h3 : (2 : Int) ^ (8 * i) = 256 ^ i := by
    have h := congrArg (fun x : Nat => (x : Int)) (Nat.pow_mul 2 8 i)
    simp only [Int.natCast_pow] at h
    exact h
  rw [h3]
theorem le_Put_loop (n : Int) (size : Nat) (hs : size ≤ 7) (h0 : 0 ≤ n) : ∀ (d i : Nat), i + d = size → Ev (fun k => le_Put.l0 k n (leRow n size i) (size : Int) (i : Int)) (Go.strOfNums (leRow n size size)) := by
  intro d
  induction d with
  | zero =>
    intro i hi
    obtain rfl : i = size := by omega
    refine Ev.from 1 fun k => ?_
    rw [le_Put.l0, if_neg (by omega)]
  | succ d ih =>
    intro i hi
    refine Ev.step (f := fun k => le_Put.l0 k n (leRow n size (i + 1)) (size : Int) ((i + 1 : Nat) : Int)) (fun k => ?_) (ih (i + 1) (by omega))
    have e1 : wrap64 (8 * (i : Int)) = 8 * (i : Int) := w64 (by omega) (by omega)
    have e2 : wrap64 ((i : Int) + 1) = ((i + 1 : Nat) : Int) := by rw [w64 (by omega) (by omega)]; omega
    rw [le_Put.l0, if_pos (by omega), if_pos (by rw [e1]; omega), if_pos (by omega), if_pos (by rw [leRow_len]; omega), e2, shr_pow n i (by omega), Int.toNat_natCast, leRow_set n size i (by omega)]
theorem le_Put_ev (n size : Int) (hn : (Lit.int .i64 n).wf = true) : Ev (fun k => le_Put.f k n size) (lePutS n size) := by
  have bn := i64b hn
  have bad : ∀ (n size : Int), ¬ (1 ≤ size ∧ size ≤ 7 ∧ 0 ≤ n ∧ n < 256 ^ size.toNat) → Ev (fun k => le_Put.j0 k n size true) (lePutS n size) := by
    intro n size h
    refine Ev.from 1 fun k => ?_
    rw [le_Put.j0, if_pos rfl, lePutS, if_neg h]
  unfold le_Put.f
  by_cases h1 : size < 1
  · simp only [if_pos h1]; exact bad n size (by omega)
  · by_cases h2 : size > 7
    · simp only [if_neg h1, if_pos h2]; exact bad n size (by omega)
    · by_cases h3 : n < 0
      · simp only [if_neg h1, if_neg h2, if_pos h3]; exact bad n size (by omega)
      · obtain ⟨s, rfl⟩ := Int.eq_ofNat_of_zero_le (show 0 ≤ size by omega)
        obtain ⟨m, rfl⟩ := Int.eq_ofNat_of_zero_le (show 0 ≤ n by omega)
        have e1 : wrap64 (8 * (s : Int)) = 8 * (s : Int) := w64 (by omega) (by omega)
        simp only [if_neg h1, if_neg h2, if_neg h3, if_pos (show 0 ≤ wrap64 (8 * (s : Int)) by rw [e1]; omega)]
        rw [shr_pow _ s (by omega)]
        by_cases h4 : m < 256 ^ s
        · have e3 : ((m : Int) / 256 ^ s != 0) = false := by
            rw [divcast, Nat.div_eq_of_lt h4]; rfl
          rw [e3]
          refine Ev.step (f := fun k => le_Put.l0 k (m : Int) (leRow m s 0) (s : Int) ((0 : Nat) : Int)) (fun k => ?_) ?_
          · rw [le_Put.j0, if_neg (by decide), if_pos (by omega), if_pos (by omega)]
            have e4 : (List.replicate (s : Int).toNat 0 : List Int) = leRow m s 0 := by
              rw [Int.toNat_natCast]
              apply List.ext_getElem
              · simp [leRow]
              · intro j h1 h2; simp [leRow]
            simp only [Option.bind_some, e4, leRow_len]
            rfl
          · have := le_Put_loop (m : Int) s (by omega) (by omega) s 0 (by omega)
            rw [leRow_full] at this
            have e5 : lePutS (m : Int) (s : Int) = ⟨(leB s m).toArray⟩ := by
              unfold lePutS
              rw [if_pos ⟨by omega, by omega, by omega, by rw [Int.toNat_natCast]; have h' := Int.ofNat_lt.2 h4; rw [Int.natCast_pow] at h'; exact h'⟩, Int.toNat_natCast, Int.toNat_natCast]
            rw [e5]; exact this
        · have e3 : ((m : Int) / 256 ^ s != 0) = true := by
            rw [divcast, bne_iff_ne]
            have : 0 < m / 256 ^ s := Nat.div_pos (by omega) (Nat.pow_pos (by decide))
            omega
          rw [e3]
          refine bad _ _ ?_
          rw [Int.toNat_natCast]
          intro ⟨_, _, _, h⟩
          have h' : ((m : Nat) : Int) < ((256 ^ s : Nat) : Int) := by rw [Int.natCast_pow]; exact h
          exact h4 (Int.ofNat_lt.1 h')

/-! ### bt -/
theorem bt_at_nat (s : ByteArray) (i : Nat) (h : i < s.data.toList.length) : bt s (i : Int) = ((s.data.toList[i]).toNat : Int) := by
  have h' : i < s.size := by rw [← dlen]; exact h
  unfold bt
  rw [Int.toNat_natCast, dif_pos h', Array.getElem_toList]; rfl

/-! ### markseal -/
theorem sumOfL_lt (l : List UInt8) : sumOfL l < 4294967296 := by unfold sumOfL; omega
/-- The sum's bytes. -/
def sumB (l : List UInt8) : List UInt8 := leB 4 (sumOfL l)
/-- The head's bytes. -/
def headB (kind : Nat) : List UInt8 := [80, 72, UInt8.ofNat (kind % 256), 0]
theorem wf_of {n : Int} (h0 : -9223372036854775808 ≤ n) (h1 : n ≤ 9223372036854775807) : (Lit.int .i64 n).wf = true := by
  have := wrap64_wf n
  rwa [w64 h0 h1] at this
theorem sumOf_ev (s : ByteArray) (hs : s.size ≤ 140737488355328) : Ev (fun k => mark_sumOf.f k s) ⟨(sumB s.data.toList).toArray⟩ := by
  have h := sumOfL_lt s.data.toList
  unfold mark_sumOf.f mark_Sum.f
  rw [if_pos hs]
  refine Ev.bind (Ev.now _) ?_
  rw [w64 (by omega) (by omega)]
  have e : lePutS (sumOfL s.data.toList : Int) 4 = ⟨(sumB s.data.toList).toArray⟩ := by
    unfold lePutS sumB
    rw [if_pos ⟨by omega, by omega, by omega, by show (sumOfL s.data.toList : Int) < 256 ^ 4; omega⟩]; rfl
  rw [← e]
  refine Ev.bind (le_Put_ev _ 4 (wf_of (by omega) (by omega))) (Ev.now _)
theorem head_ev (kind : Int) (h1 : 1 ≤ kind) (h2 : kind ≤ 255) : Ev (fun k => mark_head.f k kind) ⟨(headB kind.toNat).toArray⟩ := by
  have e : lePutS kind 1 = ⟨#[UInt8.ofNat (kind.toNat % 256)]⟩ := by
    unfold lePutS
    rw [if_pos ⟨by omega, by omega, by omega, by show kind < 256 ^ 1; omega⟩]; rfl
  unfold mark_head.f
  refine Ev.bind (le_Put_ev kind 1 (wf_of (by omega) (by omega))) ?_
  rw [e]
  have es : (⟨#[UInt8.ofNat (kind.toNat % 256)]⟩ : ByteArray).size = 1 := rfl
  rw [if_pos (by rw [es]; decide), if_pos (by rw [ByteArray.size_append, es]; decide)]
  have e2 : (⟨#[80, 72]⟩ : ByteArray) ++ ⟨#[UInt8.ofNat (kind.toNat % 256)]⟩ ++ ⟨#[0]⟩ = ⟨(headB kind.toNat).toArray⟩ := by
    rw [deq]; simp [dapp, headB]
  rw [e2]; exact Ev.now _
theorem repeat_zero (c : Int) (h0 : 0 ≤ c) (h1 : c ≤ 140737488355328) : strings_Repeat.f ⟨#[0]⟩ c = some (zerosB c.toNat) := by
  unfold strings_Repeat.f
  rw [if_pos ⟨h0, by show ((1 : Nat) : Int) * c ≤ _; omega, by omega⟩, show (⟨#[0]⟩ : ByteArray).data.toList = [0] from rfl, repeat0]; rfl
/-- What is summed. -/
def bodyL (kind : Nat) (body : List UInt8) : List UInt8 := headB kind ++ body ++ List.replicate (504 - body.length) 0
/-- A sealed sector. -/
def sealL (kind : Nat) (body : List UInt8) : List UInt8 := bodyL kind body ++ sumB (bodyL kind body)
/-- What Seal answers. -/
def sealS (kind : Int) (body : ByteArray) : ByteArray × Option Int := if kind < 1 ∨ kind > 255 then (⟨#[]⟩, some 1) else if body.size > 504 then (⟨#[]⟩, some 10) else (⟨(sealL kind.toNat body.data.toList).toArray⟩, none)
theorem bodyL_len (kind : Nat) (body : List UInt8) (h : body.length ≤ 504) : (bodyL kind body).length = 508 := by
  simp [bodyL, headB]; omega
theorem sealL_len (kind : Nat) (body : List UInt8) (h : body.length ≤ 504) : (sealL kind body).length = 512 := by
  unfold sealL
  rw [List.length_append, bodyL_len kind body h]; rfl
theorem mark_Seal_ev (kind : Int) (body : ByteArray) : Ev (fun k => mark_Seal.f k kind body) (sealS kind body) := by
  have bad : kind < 1 ∨ kind > 255 → Ev (fun k => mark_Seal.j0 k kind body true) (sealS kind body) := fun h => by
    refine Ev.from 1 fun k => ?_
    rw [mark_Seal.j0, if_pos rfl, sealS, if_pos h]
  unfold mark_Seal.f
  by_cases h1 : kind < 1
  · simp only [if_pos h1]; exact bad (.inl h1)
  · simp only [if_neg h1]
    by_cases h2 : kind > 255
    · rw [decide_eq_true h2]; exact bad (.inr h2)
    · rw [decide_eq_false h2]
      unfold sealS
      rw [if_neg (by omega)]
      refine Ev.step (fun k => by rw [mark_Seal.j0, if_neg (by decide)]) ?_
      by_cases h3 : body.size > 504
      · simp only [if_pos (show (body.size : Int) > 504 by omega), if_pos h3]; exact Ev.now _
      · simp only [if_neg (show ¬ (body.size : Int) > 504 by omega), if_neg h3]
        have hs1 : (⟨(headB kind.toNat).toArray⟩ : ByteArray).size = 4 := rfl
        refine Ev.bind (head_ev kind (by omega) (by omega)) ?_
        simp only [if_pos (show (⟨(headB kind.toNat).toArray⟩ : ByteArray).size + body.size ≤ 9223372036854775807 by rw [hs1]; omega)]
        rw [w64 (by omega) (by omega), repeat_zero _ (by omega) (by omega)]
        refine Ev.bind (Ev.now _) ?_
        have hz : (zerosB (504 - (body.size : Int)).toNat).size = 504 - body.size := by rw [zerosB_size]; omega
        have e : (⟨(headB kind.toNat).toArray⟩ : ByteArray) ++ body ++ zerosB (504 - (body.size : Int)).toNat = ⟨(bodyL kind.toNat body.data.toList).toArray⟩ := by
          rw [deq, dapp, dapp]
          show headB kind.toNat ++ body.data.toList ++ List.replicate (504 - (body.size : Int)).toNat 0 = bodyL kind.toNat body.data.toList
          unfold bodyL
          rw [dlen, show (504 - (body.size : Int)).toNat = 504 - body.size by omega]
        have es : (⟨(bodyL kind.toNat body.data.toList).toArray⟩ : ByteArray).size = 508 := by
          rw [← dlen]; exact bodyL_len _ _ (by rw [dlen]; omega)
        simp only [if_pos (show ((⟨(headB kind.toNat).toArray⟩ : ByteArray) ++ body).size + (zerosB (504 - (body.size : Int)).toNat).size ≤ 9223372036854775807 by rw [ByteArray.size_append, hs1, hz]; omega)]
        rw [e]
        refine Ev.bind (sumOf_ev _ (by rw [es]; decide)) ?_
        have e4 : ∀ l : List UInt8, (⟨(sumB l).toArray⟩ : ByteArray).size = 4 := fun l => rfl
        simp only [if_pos (show (⟨(bodyL kind.toNat body.data.toList).toArray⟩ : ByteArray).size + (⟨(sumB (bodyL kind.toNat body.data.toList)).toArray⟩ : ByteArray).size ≤ 9223372036854775807 by rw [es, e4]; decide)]
        have e5 : (⟨(bodyL kind.toNat body.data.toList).toArray⟩ : ByteArray) ++ ⟨(sumB (bodyL kind.toNat body.data.toList)).toArray⟩ = ⟨(sealL kind.toNat body.data.toList).toArray⟩ := by
          rw [deq, dapp]; rfl
        rw [e5]; exact Ev.now _

/-! ### super09 -/
/-- May there be such a layout? -/
def rightL (s j : Int) : Bool := decide (8 ≤ j ∧ j ≤ 512 ∧ s ≤ 2048 ∧ 7 + j ≤ s)
theorem super_right (s j : Int) : super_Right.f s j = some (rightL s j) := by
  unfold super_Right.f rightL
  by_cases h1 : j ≥ 8
  · rw [if_pos h1]
    by_cases h2 : j ≤ 512
    · rw [if_pos h2]
      by_cases h3 : s ≤ 2048
      · rw [if_pos h3, w64 (n := 1 + j) (by omega) (by omega), w64 (n := 1 + j + 1) (by omega) (by omega), w64 (by omega) (by omega)]
        congr 1; exact decide_eq_decide.2 (by omega)
      · rw [if_neg h3]; congr 1; exact (decide_eq_false (by omega)).symm
    · rw [if_neg h2]; congr 1; exact (decide_eq_false (by omega)).symm
  · rw [if_neg h1]; congr 1; exact (decide_eq_false (by omega)).symm
/-- A layout's bytes. -/
def layB (s j : Int) : List UInt8 := leB 2 s.toNat ++ leB 2 j.toNat
/-- What Put answers. -/
def supPut (s j : Int) : ByteArray × Option Int := if rightL s j = true then (⟨(sealL 1 (layB s j)).toArray⟩, none) else (⟨#[]⟩, some 1)
theorem right_range {s j : Int} (h : rightL s j = true) : 8 ≤ j ∧ j ≤ 512 ∧ s ≤ 2048 ∧ 7 + j ≤ s := by simpa [rightL] using h
theorem lay_put (s j : Int) (h : rightL s j = true) : lePutS s 2 ++ lePutS j 2 = ⟨(layB s j).toArray⟩ := by
  obtain ⟨h1, h2, h3, h4⟩ := right_range h
  unfold lePutS layB
  rw [if_pos ⟨by omega, by omega, by omega, by show s < 256 ^ 2; omega⟩, if_pos ⟨by omega, by omega, by omega, by show j < 256 ^ 2; omega⟩]
  rw [deq, dapp]; rfl
theorem lay_size (s j : Int) : (⟨(layB s j).toArray⟩ : ByteArray).size = 4 := by
  rw [← dlen]
  show (layB s j).length = 4
  unfold layB; rw [List.length_append, leB_len, leB_len]
theorem put_size (n : Int) : (lePutS n 2).size ≤ 2 := by
  unfold lePutS
  split
  · rw [← dlen]; simp [leB_len]
  · rw [← dlen]; simp
theorem super_put_ev (s j : Int) (hs : (Lit.int .i64 s).wf = true) (hj : (Lit.int .i64 j).wf = true) : Ev (fun k => super_Put.f k s j) (supPut s j) := by
  unfold super_Put.f supPut
  rw [super_right]
  cases h : rightL s j with
  | false => exact Ev.now _
  | true =>
    simp only [Option.bind_some, if_true]
    refine Ev.bind (le_Put_ev s 2 hs) (Ev.bind (le_Put_ev j 2 hj) ?_)
    have h1 := put_size s
    have h2 := put_size j
    simp only [if_pos (show (lePutS s 2).size + (lePutS j 2).size ≤ 9223372036854775807 by omega)]
    rw [lay_put s j h]
    have hse := mark_Seal_ev 1 ⟨(layB s j).toArray⟩
    unfold sealS at hse
    rw [if_neg (by omega), if_neg (by rw [lay_size]; omega)] at hse
    exact Ev.bind hse (Ev.now _)
theorem speaks_ev : Ev (fun _ => posthorselaw09_speaks.f) true := Ev.all fun _ => by decide +kernel

/-! ### markopen -/
/-- What Open answers. -/
def openS (kind : Int) (l : List UInt8) : ByteArray × Option Int := if l.length = 512 ∧ 1 ≤ kind ∧ kind ≤ 255 ∧ l.take 4 = headB kind.toNat then (if l.drop 508 = sumB (l.take 508) then (⟨((l.take 508).drop 4).toArray⟩, none) else (⟨#[]⟩, some 5)) else (⟨#[]⟩, some 4)
theorem ext_list (s : ByteArray) (a b : Nat) : (s.extract a b).data.toList = (s.data.toList.take b).drop a := by
  rw [ByteArray.data_extract, Array.toList_extract, List.extract_eq_drop_take', List.drop_take]
theorem mark_Open_ev (kind : Int) (s : ByteArray) : Ev (fun k => mark_Open.f k kind s) (openS kind s.data.toList) := by
  have bad : ¬ (s.data.toList.length = 512 ∧ 1 ≤ kind ∧ kind ≤ 255 ∧ s.data.toList.take 4 = headB kind.toNat) → Ev (fun k => mark_Open.j0 k s true) (openS kind s.data.toList) := fun h => by
    refine Ev.from 1 fun k => ?_
    rw [mark_Open.j0, if_pos rfl, openS, if_neg h]
  have hl := dlen s
  unfold mark_Open.f
  by_cases h0 : s.size = 512
  · simp only [if_pos (show (s.size : Int) = 512 by omega)]
    by_cases h1 : kind < 1
    · simp only [if_pos h1]; exact bad (by omega)
    · by_cases h2 : kind > 255
      · simp only [if_neg h1, if_pos h2]; exact bad (by omega)
      · simp only [if_neg h1, if_neg h2]
        simp only [if_pos (show (0 : Int) ≤ 4 by decide), if_pos (show 4 ≤ (s.size : Int) by omega)]
        refine Ev.bind (head_ev kind (by omega) (by omega)) ?_
        have e4 : (s.extract 0 4).toList = s.data.toList.take 4 := by rw [dl, ext_list, List.drop_zero]
        have e4' : ByteArray.toList ⟨(headB kind.toNat).toArray⟩ = headB kind.toNat := by rw [dl]
        rw [e4, e4']
        by_cases h3 : s.data.toList.take 4 = headB kind.toNat
        · rw [h3, bne_self_eq_false]
          refine Ev.step (fun k => by rw [mark_Open.j0, if_neg (by decide), if_pos (by omega), if_pos (by decide)]) ?_
          refine Ev.bind (sumOf_ev (s.extract 0 508) (by rw [ByteArray.size_extract]; omega)) ?_
          have e5 : (s.extract 508 s.size).toList = s.data.toList.drop 508 := by rw [dl, ext_list, List.take_of_length_le (by rw [dlen]; omega)]
          have e6 : (s.extract 0 508).data.toList = s.data.toList.take 508 := by rw [ext_list, List.drop_zero]
          have e7 : ∀ l : List UInt8, ByteArray.toList ⟨(sumB l).toArray⟩ = sumB l := fun l => by rw [dl]
          rw [e5, e6, e7]
          have hc : s.data.toList.length = 512 ∧ 1 ≤ kind ∧ kind ≤ 255 ∧ s.data.toList.take 4 = headB kind.toNat := ⟨by omega, by omega, by omega, h3⟩
          have e8 : s.extract 4 508 = ⟨((s.data.toList.take 508).drop 4).toArray⟩ := by rw [deq, ext_list]
          by_cases h4 : s.data.toList.drop 508 = sumB (s.data.toList.take 508)
          · have eo : openS kind s.data.toList = (⟨((s.data.toList.take 508).drop 4).toArray⟩, none) := by unfold openS; rw [if_pos hc, if_pos h4]
            rw [eo]
            refine Ev.from 0 fun k => ?_
            rw [if_pos h4, if_pos (by decide), e8]
          · have eo : openS kind s.data.toList = (⟨#[]⟩, some 5) := by unfold openS; rw [if_pos hc, if_neg h4]
            rw [eo]
            refine Ev.from 0 fun k => ?_
            rw [if_neg h4]
        · have : (s.data.toList.take 4 != headB kind.toNat) = true := by simpa using h3
          rw [this]
          exact bad (fun h => h3 h.2.2.2)
  · simp only [if_neg (show ¬ (s.size : Int) = 512 by omega)]; exact bad (by omega)
/-- What is sealed opens as that. -/
theorem open_seal (kind : Int) (body : List UInt8) (h1 : 1 ≤ kind) (h2 : kind ≤ 255) (hb : body.length ≤ 504) : openS kind (sealL kind.toNat body) = (⟨(body ++ List.replicate (504 - body.length) 0).toArray⟩, none) := by
  have hbl := bodyL_len kind.toNat body hb
  have t508 : (sealL kind.toNat body).take 508 = bodyL kind.toNat body := by
    unfold sealL
    rw [List.take_append_of_le_length (by omega), List.take_of_length_le (by omega)]
  have d508 : (sealL kind.toNat body).drop 508 = sumB (bodyL kind.toNat body) := by
    unfold sealL
    rw [← hbl, List.drop_left]
  have t4 : (sealL kind.toNat body).take 4 = headB kind.toNat := rfl
  unfold openS
  rw [if_pos ⟨sealL_len _ _ hb, h1, h2, t4⟩, t508, d508, if_pos rfl]
  rfl

/-! ### leget -/
theorem or_i64 (a b : Nat) (ha : a < 9223372036854775808) (hb : b < 9223372036854775808) : Go.bits .or .i64 (a : Int) (b : Int) = ((a ||| b : Nat) : Int) := by
  have hx : a ||| b < 2 ^ 63 := Nat.or_lt_two_pow (by omega) (by omega)
  have h1 : (BitVec.ofInt 64 (a : Int)).toNat = a := by
    rw [BitVec.ofInt_natCast, BitVec.toNat_ofNat]; exact Nat.mod_eq_of_lt (by omega)
  have h2 : (BitVec.ofInt 64 (b : Int)).toNat = b := by
    rw [BitVec.ofInt_natCast, BitVec.toNat_ofNat]; exact Nat.mod_eq_of_lt (by omega)
  show IntKind.i64.wrap ((BitVec.ofInt 64 (a : Int) ||| BitVec.ofInt 64 (b : Int)).toNat : Int) = _
  rw [BitVec.toNat_or, h1, h2]
  rw [IntKind.wrap_i64]
  omega
theorem or_low (n b : Nat) (hn : n < 281474976710656) (hb : b < 256) : Go.bits .or .i64 (wrap64 ((n : Int) * 256)) (wrap64 (b : Int)) = ((b + 256 * n : Nat) : Int) := by
  have e1 : wrap64 ((n : Int) * 256) = ((n * 256 : Nat) : Int) := by rw [w64 (by omega) (by omega)]; omega
  rw [e1, w64 (by omega) (by omega), or_i64 _ _ (by omega) (by omega)]
  have h := Nat.shiftLeft_add_eq_or_of_lt (show b < 2 ^ 8 by omega) n
  rw [Nat.shiftLeft_eq] at h
  have h' : n * 256 ||| b = n * 256 + b := h.symm
  rw [h']; omega
theorem bt_get (s : ByteArray) (i : Nat) : bt s (i : Int) = ((s.data.toList.getD i 0).toNat : Int) := by
  unfold bt
  rw [Int.toNat_natCast]
  split
  · rename_i h
    have h' : i < s.data.toList.length := by rw [dlen]; exact h
    rw [List.getD_eq_getElem?_getD, List.getElem?_eq_getElem h', Option.getD_some, Array.getElem_toList]
    rfl
  · rename_i h
    have h' : s.data.toList.length ≤ i := by rw [dlen]; omega
    rw [List.getD_eq_getElem?_getD, List.getElem?_eq_none h']
    rfl
/-- What Get answers. -/
def leGetS (s : ByteArray) : Int := if s.size ≤ 7 then (unB s.data.toList : Int) else 0
theorem le_Get_loop (s : ByteArray) (hs : s.size ≤ 7) : ∀ (i : Nat), i ≤ s.size → Ev (fun k => le_Get.l0 k s (unB (s.data.toList.drop i) : Int) ((i : Int) - 1)) (unB s.data.toList : Int) := by
  intro i
  induction i with
  | zero =>
    intro _
    refine Ev.from 1 fun k => ?_
    rw [le_Get.l0, if_neg (by omega), List.drop_zero]
  | succ i ih =>
    intro hi
    have hil : i < s.data.toList.length := by rw [dlen]; omega
    have e1 : ((i + 1 : Nat) : Int) - 1 = (i : Int) := by omega
    have e2 : wrap64 ((i : Int) - 1) = (i : Int) - 1 := w64 (by omega) (by omega)
    have hb := (s.data.toList[i]).toNat_lt
    have hlt := unB_lt (s.data.toList.drop (i + 1))
    rw [List.length_drop, dlen] at hlt
    have hp : 256 ^ (s.size - (i + 1)) ≤ 256 ^ 6 := Nat.pow_le_pow_right (by decide) (by omega)
    have e3 : bt s (i : Int) = ((s.data.toList[i]).toNat : Int) := by
      rw [bt_get, List.getD_eq_getElem?_getD, List.getElem?_eq_getElem hil]; rfl
    have e4 : unB (s.data.toList.drop i) = (s.data.toList[i]).toNat + 256 * unB (s.data.toList.drop (i + 1)) := by
      rw [List.drop_eq_getElem_cons hil, unB]
    refine Ev.step (fun k => ?_) (ih (by omega))
    rw [e1, le_Get.l0, if_pos (by omega), if_pos (by omega), if_pos (by omega), e2, e3, e4]
    rw [or_low _ _ (by omega) (by omega)]
theorem le_Get_ev (s : ByteArray) : Ev (fun k => le_Get.f k s) (leGetS s) := by
  unfold le_Get.f leGetS
  by_cases h : s.size ≤ 7
  · simp only [if_neg (show ¬ (s.size : Int) > 7 by omega), if_pos h]
    rw [w64 (by omega) (by omega)]
    have := le_Get_loop s h s.size (Nat.le_refl _)
    rw [List.drop_of_length_le (by rw [dlen]; omega)] at this
    exact this
  · simp only [if_pos (show (s.size : Int) > 7 by omega), if_neg h]; exact Ev.now _

/-! ### lein -/
theorem bex (s : ByteArray) (a b : Nat) : (s.extract a b).data.toList = (s.data.toList.take b).drop a := by
  rw [ByteArray.data_extract, Array.toList_extract, List.extract_eq_drop_take', List.drop_take]
theorem drop_nil_iff (l : List UInt8) : l.dropWhile (· == 0) = [] ↔ ∀ b ∈ l, b = 0 := by
  induction l with
  | nil => simp
  | cons a l ih =>
    by_cases h : a = 0
    · subst h
      rw [List.dropWhile_cons_of_pos (by decide), ih]
      simp
    · rw [List.dropWhile_cons_of_neg (by simpa using h)]
      simp [h]
theorem trim_nil_iff (l : List UInt8) : Lib.trimB l 0 = [] ↔ ∀ b ∈ l, b = 0 := by
  unfold Lib.trimB Lib.trimLeftB Lib.trimRightB
  rw [drop_nil_iff]
  constructor
  · intro h
    have h1 : (l.reverse.dropWhile (· == 0)) = [] := by
      cases hx : l.reverse.dropWhile (· == 0) with
      | nil => rfl
      | cons a r =>
        have ha : a = 0 := h a (by rw [hx]; simp)
        have h2 : ¬ ((a == 0) = true) := by
          have h3 := List.head?_dropWhile_not (p := fun b : UInt8 => b == 0) (l := l.reverse)
          rw [hx] at h3
          simpa using h3
        exact absurd (by simp [ha]) h2
    have h4 := (drop_nil_iff l.reverse).1 h1
    intro b hb
    exact h4 b (by simpa using hb)
  · intro h b hb
    have h1 : l.reverse.dropWhile (· == 0) = [] := (drop_nil_iff l.reverse).2 (fun b hb => h b (by simpa using hb))
    rw [h1] at hb
    simp at hb
/-- What Text answers: the text, the rest, the error. -/
def inText (s : ByteArray) (e : Option Int) (n : Int) : ByteArray × ByteArray × Option Int :=
  if e.isNone = true then (if n < 0 then (⟨#[]⟩, s, some 1) else if n > (s.size : Int) then (⟨#[]⟩, s, some 4) else (s.extract 0 n.toNat, s.extract n.toNat s.size, none)) else (⟨#[]⟩, s, some (e.getD 0))
theorem in_fail (s : ByteArray) (e : Option Int) (n : Int) : le_In_fail.f s e n = some (s, if e.isNone = true then some n else some (e.getD 0)) := by
  unfold le_In_fail.f
  split <;> rfl
theorem in_text (s : ByteArray) (e : Option Int) (n : Int) : le_In_Text.f s e n = some (inText s e n) := by
  unfold le_In_Text.f inText
  simp only [in_fail, Option.bind_some]
  cases e with
  | none =>
    simp only [Option.isNone_none, if_true, Option.isNone_some, Bool.false_eq_true, if_false]
    by_cases h1 : n < 0
    · rw [if_pos h1, if_pos h1]; rfl
    · rw [if_neg h1, if_neg h1]
      by_cases h2 : n > (s.size : Int)
      · rw [if_pos h2, if_pos h2]; rfl
      · rw [if_neg h2, if_neg h2, if_pos (by omega), if_pos (by omega)]
  | some v =>
    simp only [Option.isNone_some, Bool.false_eq_true, if_false]
    split
    · rfl
    · split <;> rfl
/-- What Num leaves of the error ahead of the text. -/
def inNumE (e : Option Int) (n : Int) : Option Int := if n < 1 ∨ n > 7 then (if e.isNone = true then some 1 else some (e.getD 0)) else e
/-- What Num answers. -/
def inNum (s : ByteArray) (e : Option Int) (n : Int) : Int × ByteArray × Option Int := (leGetS (inText s (inNumE e n) n).1, (inText s (inNumE e n) n).2)
theorem in_num (s : ByteArray) (e : Option Int) (n : Int) : Ev (fun k => le_In_Num.f k s e n) (inNum s e n) := by
  have bad : n < 1 ∨ n > 7 → Ev (fun k => le_In_Num.j0 k n true s e) (inNum s e n) := fun h => by
    refine Ev.step (fun k => by rw [le_In_Num.j0, if_pos rfl, in_fail, Option.bind_some]) ?_
    unfold inNum inNumE
    rw [if_pos h]
    simp only [in_text, Option.bind_some]
    exact Ev.bind (le_Get_ev _) (Ev.now _)
  unfold le_In_Num.f
  by_cases h1 : n < 1
  · simp only [if_pos h1]; exact bad (.inl h1)
  · simp only [if_neg h1]
    by_cases h2 : n > 7
    · rw [decide_eq_true h2]; exact bad (.inr h2)
    · rw [decide_eq_false h2]
      refine Ev.step (fun k => by rw [le_In_Num.j0, if_neg (by decide)]) ?_
      unfold inNum inNumE
      rw [if_neg (by omega)]
      simp only [in_text, Option.bind_some]
      exact Ev.bind (le_Get_ev _) (Ev.now _)
/-- What Noughts leaves. -/
def inNoughts (s : ByteArray) (e : Option Int) (n : Int) : ByteArray × Option Int :=
  ((inText s e n).2.1, if (inText s e n).1.data.toList.all (· == 0) = true then (inText s e n).2.2 else (if (inText s e n).2.2.isNone = true then some 4 else some ((inText s e n).2.2.getD 0)))
theorem in_text_size (s : ByteArray) (e : Option Int) (n : Int) : (inText s e n).1.size ≤ s.size := by
  unfold inText
  split
  · split
    · exact Nat.zero_le _
    · split
      · exact Nat.zero_le _
      · show (s.extract 0 n.toNat).size ≤ s.size
        rw [ByteArray.size_extract]; omega
  · exact Nat.zero_le _
theorem in_noughts (s : ByteArray) (e : Option Int) (n : Int) (hs : s.size ≤ 9223372036854775807) : le_In_Noughts.f s e n = some (inNoughts s e n) := by
  unfold le_In_Noughts.f inNoughts
  rw [in_text, Option.bind_some]
  have h1 := in_text_size s e n
  unfold strings_Trim.f
  rw [if_pos ⟨rfl, by omega⟩, Option.bind_some]
  have h2 : (ByteArray.toList ⟨(Lib.trimB (inText s e n).1.data.toList 0).toArray⟩) = Lib.trimB (inText s e n).1.data.toList 0 := by rw [dl]
  rw [h2]
  by_cases h : (inText s e n).1.data.toList.all (· == 0) = true
  · have h3 : Lib.trimB (inText s e n).1.data.toList 0 = [] := (trim_nil_iff _).2 (fun b hb => by have := List.all_eq_true.1 h b hb; simpa using this)
    rw [if_pos h3, if_pos h]
  · have h3 : ¬ Lib.trimB (inText s e n).1.data.toList 0 = [] := fun h4 => h (List.all_eq_true.2 (fun b hb => by simpa using (trim_nil_iff _).1 h4 b hb))
    rw [if_neg h3, if_neg h, in_fail]; rfl
/-- What End answers. -/
def inEnd (s : ByteArray) (e : Option Int) : Option Int := if e.isNone = true then (if s.data.toList = [] then none else some 10) else some (e.getD 0)
theorem in_end (s : ByteArray) (e : Option Int) : ∃ r, le_In_End.f s e = some (inEnd s e, r) := by
  unfold le_In_End.f inEnd
  rw [dl]
  split
  · split <;> exact ⟨_, rfl⟩
  · exact ⟨_, rfl⟩

/-! ### superget -/
theorem in_num_ok (s : ByteArray) (n : Nat) (h1 : 1 ≤ n) (h7 : n ≤ 7) (h : n ≤ s.size) : inNum s none (n : Int) = ((unB (s.data.toList.take n) : Int), s.extract n s.size, none) := by
  have e : inNumE none (n : Int) = none := by unfold inNumE; rw [if_neg (by omega)]
  have t : inText s none (n : Int) = (s.extract 0 n, s.extract n s.size, none) := by
    unfold inText
    simp only [Option.isNone_none, if_true]
    rw [if_neg (by omega), if_neg (by omega), Int.toNat_natCast]
  unfold inNum
  rw [e, t]
  have hs : (s.extract 0 n).size ≤ 7 := by rw [ByteArray.size_extract]; omega
  have hd : (s.extract 0 n).data.toList = s.data.toList.take n := by rw [bex, List.drop_zero]
  unfold leGetS
  rw [if_pos hs, hd]
theorem in_noughts_ok (s : ByteArray) (n : Nat) (h : n ≤ s.size) : inNoughts s none (n : Int) = (s.extract n s.size, if (s.data.toList.take n).all (· == 0) = true then none else some 4) := by
  have t : inText s none (n : Int) = (s.extract 0 n, s.extract n s.size, none) := by
    unfold inText
    simp only [Option.isNone_none, if_true]
    rw [if_neg (by omega), if_neg (by omega), Int.toNat_natCast]
  have hd : (s.extract 0 n).data.toList = s.data.toList.take n := by rw [bex, List.drop_zero]
  unfold inNoughts
  rw [t]
  simp only [hd, Option.isNone_none, if_true]
theorem bex_end (s : ByteArray) (a : Nat) : (s.extract a s.size).data.toList = s.data.toList.drop a := by
  rw [bex, List.take_of_length_le (by rw [dlen]; exact Nat.le_refl _)]
/-- What Get answers, of a body. -/
def supBody (b : List UInt8) : Int × Int × Option Int :=
  if (b.drop 4).all (· == 0) = true then (if rightL (unB (b.take 2) : Int) (unB ((b.drop 2).take 2) : Int) = true then ((unB (b.take 2) : Int), (unB ((b.drop 2).take 2) : Int), none) else (0, 0, some 17)) else (0, 0, some 4)
/-- What Get answers. -/
def supGet (l : List UInt8) : Int × Int × Option Int :=
  if (openS 1 l).2.isNone = true then supBody (openS 1 l).1.data.toList else (0, 0, some ((openS 1 l).2.getD 0))
theorem open_size {kind : Int} {l : List UInt8} (h : (openS kind l).2.isNone = true) : (openS kind l).1.size = 504 := by
  unfold openS at h ⊢
  split at h
  · rename_i hc
    split at h
    · rename_i h4
      rw [if_pos hc, if_pos h4, ← dlen]
      show ((l.take 508).drop 4).length = 504
      rw [List.length_drop, List.length_take, hc.1]; rfl
    · cases h
  · cases h
theorem super_get_ev (s : ByteArray) : Ev (fun k => super_Get.f k s) (supGet s.data.toList) := by
  unfold super_Get.f supGet
  refine Ev.bind (mark_Open_ev 1 s) ?_
  by_cases h : (openS 1 s.data.toList).2.isNone = true
  · simp only [if_pos h]
    have hsz := open_size h
    generalize (openS 1 s.data.toList).1 = b at *
    refine Ev.bind (a := (b, none)) (Ev.now _) ?_
    have n1 := in_num b none 2
    rw [show (2 : Int) = ((2 : Nat) : Int) from rfl, in_num_ok b 2 (by omega) (by omega) (by omega)] at n1
    refine Ev.bind n1 ?_
    have s1 : (b.extract 2 b.size).size = 502 := by rw [ByteArray.size_extract]; omega
    have d1 := bex_end b 2
    generalize b.extract 2 b.size = b1 at *
    have n2 := in_num b1 none 2
    rw [show (2 : Int) = ((2 : Nat) : Int) from rfl, in_num_ok b1 2 (by omega) (by omega) (by omega)] at n2
    refine Ev.bind n2 ?_
    have s2 : (b1.extract 2 b1.size).size = 500 := by rw [ByteArray.size_extract]; omega
    have d2 := bex_end b1 2
    generalize b1.extract 2 b1.size = b2 at *
    have n3 := in_noughts b2 none 500 (by omega)
    rw [show (500 : Int) = ((500 : Nat) : Int) from rfl, in_noughts_ok b2 500 (by omega)] at n3
    rw [show (500 : Int) = ((500 : Nat) : Int) from rfl]
    simp only [n3, Option.bind_some]
    have d3 : b2.data.toList.take 500 = b.data.toList.drop 4 := by
      rw [List.take_of_length_le (by rw [dlen]; omega), d2, d1, List.drop_drop]
    have d4 : (b2.extract 500 b2.size).data.toList = [] := by
      rw [bex_end, List.drop_of_length_le (by rw [dlen]; omega)]
    rw [d3]
    unfold supBody
    by_cases ha : (b.data.toList.drop 4).all (· == 0) = true
    · obtain ⟨r, hr⟩ := in_end (b2.extract 500 b2.size) none
      have he : inEnd (b2.extract 500 b2.size) none = none := by unfold inEnd; simp only [Option.isNone_none, if_true]; rw [if_pos d4]
      rw [he] at hr
      simp only [if_pos ha, hr, Option.bind_some, Option.isNone_none, if_true, super_right, d1]
      by_cases hR : rightL (unB (b.data.toList.take 2) : Int) (unB ((b.data.toList.drop 2).take 2) : Int) = true
      · simp only [if_pos hR]; exact Ev.now _
      · simp only [if_neg hR]; exact Ev.now _
    · obtain ⟨r, hr⟩ := in_end (b2.extract 500 b2.size) (some 4)
      have he : inEnd (b2.extract 500 b2.size) (some 4) = some 4 := rfl
      rw [he] at hr
      simp only [if_neg ha, hr, Option.bind_some, Option.isNone_some, Bool.false_eq_true, if_false]
      exact Ev.now _
  · simp only [if_neg h]; exact Ev.now _

/-! ### lf03 -/
/-- One bit of the register. -/
def lf (x : Nat) : Nat := x / 2 ^^^ (if x % 2 = 1 then 2197175160 else 0)
def lfs : Nat → Nat → Nat
  | 0, x => x
  | d + 1, x => lfs d (lf x)
theorem lf_xor (x y : Nat) : lf (x ^^^ y) = lf x ^^^ lf y := by
  unfold lf
  rw [Nat.xor_div_two]
  have hm : (x ^^^ y) % 2 = (x % 2 + y % 2) % 2 := by
    have h := Nat.testBit_xor x y 0
    simp only [Nat.testBit_zero] at h
    rcases Nat.mod_two_eq_zero_or_one x with hx | hx <;> rcases Nat.mod_two_eq_zero_or_one y with hy | hy <;> rcases Nat.mod_two_eq_zero_or_one (x ^^^ y) with hz | hz <;> simp_all
  have e : ∀ a b p : Nat, a ^^^ p ^^^ (b ^^^ p) = a ^^^ b := fun a b p => by
    rw [Nat.xor_assoc, ← Nat.xor_assoc p b p, Nat.xor_comm p b, Nat.xor_assoc b p p, Nat.xor_self, Nat.xor_zero]
  have e2 : ∀ a b p : Nat, a ^^^ b ^^^ p = a ^^^ p ^^^ b := fun a b p => by rw [Nat.xor_assoc, Nat.xor_comm b, ← Nat.xor_assoc]
  rcases Nat.mod_two_eq_zero_or_one x with hx | hx <;> rcases Nat.mod_two_eq_zero_or_one y with hy | hy
  · rw [if_neg (by omega), if_neg (by omega), if_neg (by omega), Nat.xor_zero, Nat.xor_zero, Nat.xor_zero]
  · rw [if_pos (by omega), if_neg (by omega), if_pos (by omega), Nat.xor_zero, Nat.xor_assoc]
  · rw [if_pos (by omega), if_pos (by omega), if_neg (by omega), Nat.xor_zero, e2]
  · rw [if_neg (by omega), if_pos (by omega), if_pos (by omega), Nat.xor_zero, e]
theorem lfs_xor : ∀ d x y, lfs d (x ^^^ y) = lfs d x ^^^ lfs d y
  | 0, _, _ => rfl
  | d + 1, x, y => by rw [lfs, lfs, lfs, lf_xor, lfs_xor d]
theorem lf_two (q : Nat) : lf (2 * q) = q := by
  unfold lf
  rw [if_neg (by omega), Nat.xor_zero]; omega
theorem lfs4 (q : Nat) : lfs 4 (16 * q) = q := by
  show lf (lf (lf (lf (16 * q)))) = q
  rw [show 16 * q = 2 * (2 * (2 * (2 * q))) by omega, lf_two, lf_two, lf_two, lf_two]
theorem split16 (x : Nat) : x = (16 * (x / 16)) ^^^ (x % 16) := by
  have h := Nat.shiftLeft_add_eq_or_of_lt (show x % 16 < 2 ^ 4 by omega) (x / 16)
  have hd : (x / 16) <<< 4 &&& (x % 16) = 0 := by
    apply Nat.eq_of_testBit_eq
    intro i
    rw [Nat.testBit_and, Nat.zero_testBit, Nat.testBit_shiftLeft]
    by_cases hi : i ≥ 4
    · have : (x % 16).testBit i = false := Nat.testBit_lt_two_pow (Nat.lt_of_lt_of_le (show x % 16 < 2 ^ 4 by omega) (Nat.pow_le_pow_right (by decide) hi))
      rw [this, Bool.and_false]
    · simp [hi]
  have hx : (x / 16) <<< 4 ^^^ (x % 16) = (x / 16) <<< 4 ||| (x % 16) := by
    apply Nat.eq_of_testBit_eq
    intro i
    have h2 := congrArg (fun n => n.testBit i) hd
    simp only [Nat.testBit_and, Nat.zero_testBit] at h2
    rw [Nat.testBit_xor, Nat.testBit_or]
    cases h3 : ((x / 16) <<< 4).testBit i <;> cases h4 : (x % 16).testBit i <;> simp_all
  rw [Nat.shiftLeft_eq] at h hx
  rw [show 16 * (x / 16) = x / 16 * 2 ^ 4 by omega, hx, ← h]; omega
theorem nib_lfs (x : Nat) : nibStep x = lfs 4 x := by
  have h : ∀ i : Fin 16, lfs 4 i.val = nibs.getD i.val 0 := by decide +kernel
  have h2 : lfs 4 (x % 16) = nibs.getD (x % 16) 0 := h ⟨x % 16, Nat.mod_lt _ (by decide)⟩
  unfold nibStep
  rw [← h2]
  have h3 := congrArg (lfs 4) (split16 x)
  rw [lfs_xor, lfs4] at h3
  exact h3.symm
theorem sum_lfs (r b : Nat) : sumStep r b = lfs 8 (r ^^^ b) := by
  unfold sumStep
  rw [nib_lfs, nib_lfs]; rfl

/-! ### sum03 -/
theorem ref_bit (R c : Nat) (hR : R < 4294967296) (hc : c < 4294967296) : (Int.tmod (Go.bits .xor .u32 (R : Int) (c : Int)) 2 = 1) = ((R ^^^ c) % 2 = 1) := by
  rw [xor_u32 R c hR hc, Int.tmod_eq_emod_of_nonneg (by omega)]
  apply propext
  constructor <;> intro h <;> omega
theorem ref03_inner (s : ByteArray) (i : Nat) (hi : i < s.size) (hs : s.size ≤ 140737488355328) (b : Nat) (hb : bt s (i : Int) = (b : Int)) (hb2 : b < 256) (res : Int) : ∀ (d j R : Nat), j + d = 8 → R < 4294967296 →
    Ev (fun k => posthorseref03_Sum.l0 k s ((lfs d (R ^^^ (b / 2 ^ j)) : Nat) : Int) ((i + 1 : Nat) : Int)) res → Ev (fun k => posthorseref03_Sum.l1 k s (R : Int) (i : Int) (j : Int)) res := by
  have e1 : wrap64 ((i : Int) + 1) = ((i + 1 : Nat) : Int) := by rw [w64 (by omega) (by omega)]; omega
  intro d
  induction d with
  | zero =>
    intro j R hj hR h
    obtain rfl : j = 8 := by omega
    have : b / 2 ^ 8 = 0 := Nat.div_eq_of_lt (by omega)
    rw [this, Nat.xor_zero, lfs] at h
    refine Ev.step (fun k => ?_) h
    rw [posthorseref03_Sum.l1, if_neg (by omega), e1]
  | succ d ih =>
    intro j R hj hR h
    have ej : wrap64 ((j : Int) + 1) = ((j + 1 : Nat) : Int) := by rw [w64 (by omega) (by omega)]; omega
    have eu : IntKind.u64.wrap (j : Int) = (j : Int) := by rw [IntKind.wrap_u64]; omega
    have hsh : shr .u32 ((b : Int) % 4294967296) (j : Int) = ((b / 2 ^ j : Nat) : Int) := by
      unfold shr
      rw [Int.toNat_natCast, show min j (IntKind.bits .u32) = j by show min j 32 = j; omega, show (b : Int) % 4294967296 = (b : Int) by omega, Int.natCast_ediv, Int.natCast_pow]; rfl
    have hc : b / 2 ^ j < 256 := Nat.lt_of_le_of_lt (Nat.div_le_self _ _) hb2
    have hd2 : b / 2 ^ (j + 1) = b / 2 ^ j / 2 := by rw [Nat.div_div_eq_div_mul, Nat.pow_succ]
    have hdiv : (Int.tdiv (R : Int) 2) % 4294967296 = ((R / 2 : Nat) : Int) := by rw [Int.tdiv_eq_ediv_of_nonneg (by omega)]; omega
    have hstep : ∀ R' : Nat, R' < 4294967296 → R' ^^^ (b / 2 ^ (j + 1)) = lf (R ^^^ (b / 2 ^ j)) → Ev (fun k => posthorseref03_Sum.l1 k s (R' : Int) (i : Int) ((j + 1 : Nat) : Int)) res := by
      intro R' hR' he
      refine ih (j + 1) R' (by omega) hR' ?_
      rw [he]; exact h
    by_cases hbit : (R ^^^ (b / 2 ^ j)) % 2 = 1
    · have hx : ((R / 2 ^^^ 2197175160 : Nat)) < 4294967296 := xor_lt32 (by omega) (by decide)
      refine Ev.step (fun k => ?_) (hstep (R / 2 ^^^ 2197175160) hx ?_)
      · rw [posthorseref03_Sum.l1, if_pos (by omega), if_pos (by omega), if_pos (by omega), eu, if_pos (by omega), hb, hsh]
        simp only [ref_bit R _ hR (show b / 2 ^ j < 4294967296 by omega), if_pos hbit, hdiv, ej]
        have := xor_u32 (R / 2) 2197175160 (by omega) (by decide)
        rw [show ((2197175160 : Nat) : Int) = 2197175160 from rfl] at this
        rw [this]
      · unfold lf
        rw [if_pos hbit, Nat.xor_div_two, hd2, Nat.xor_assoc, Nat.xor_comm 2197175160, ← Nat.xor_assoc]
    · refine Ev.step (fun k => ?_) (hstep (R / 2) (by omega) ?_)
      · rw [posthorseref03_Sum.l1, if_pos (by omega), if_pos (by omega), if_pos (by omega), eu, if_pos (by omega), hb, hsh]
        simp only [ref_bit R _ hR (show b / 2 ^ j < 4294967296 by omega), if_neg hbit, hdiv, ej]
      · unfold lf
        rw [if_neg hbit, Nat.xor_div_two, hd2, Nat.xor_zero]
theorem ref03_Sum_loop (s : ByteArray) (hs : s.size ≤ 140737488355328) : ∀ (d i : Nat), i + d = s.size → Ev (fun k => posthorseref03_Sum.l0 k s ((sumReg (s.data.toList.take i) : Nat) : Int) (i : Int)) (sumOfL s.data.toList : Int) := by
  intro d
  induction d with
  | zero =>
    intro i hi
    refine Ev.from 1 fun k => ?_
    have hr := sumReg_lt s.data.toList
    rw [posthorseref03_Sum.l0, if_neg (by omega), List.take_of_length_le (by rw [dlen]; omega)]
    unfold sumOfL
    congr 1
    omega
  | succ d ih =>
    intro i hi
    have hil : i < s.data.toList.length := by rw [dlen]; omega
    have hr := sumReg_lt (s.data.toList.take i)
    refine Ev.step (f := fun k => posthorseref03_Sum.l1 k s ((sumReg (s.data.toList.take i) : Nat) : Int) (i : Int) ((0 : Nat) : Int)) (fun k => by rw [posthorseref03_Sum.l0, if_pos (by omega)]; rfl) ?_
    refine ref03_inner s i (by omega) hs (s.data.toList[i]).toNat (bt_at_nat s i hil) (s.data.toList[i]).toNat_lt _ 8 0 _ (by omega) hr ?_
    have e : lfs 8 (sumReg (s.data.toList.take i) ^^^ ((s.data.toList[i]).toNat / 2 ^ 0)) = sumReg (s.data.toList.take (i + 1)) := by
      rw [Nat.pow_zero, Nat.div_one, ← sum_lfs]
      unfold sumReg
      rw [List.take_succ_eq_append_getElem hil, List.foldl_append]; rfl
    rw [e]
    exact ih (i + 1) (by omega)
theorem ref03_Sum_ev (s : ByteArray) (hs : s.size ≤ 140737488355328) : Ev (fun k => posthorseref03_Sum.f k s) (sumOfL s.data.toList : Int) := by
  unfold posthorseref03_Sum.f
  exact ref03_Sum_loop s hs s.size 0 (by omega)

/-! ### ref01put -/
theorem leB_snoc : ∀ (i m : Nat), leB (i + 1) m = leB i m ++ [UInt8.ofNat (m / 256 ^ i % 256)]
  | 0, m => by simp [leB]
  | i + 1, m => by
    have h := leB_snoc i (m / 256)
    show UInt8.ofNat (m % 256) :: leB (i + 1) (m / 256) = (UInt8.ofNat (m % 256) :: leB i (m / 256)) ++ [UInt8.ofNat (m / 256 ^ (i + 1) % 256)]
    rw [h, Nat.div_div_eq_div_mul, Nat.pow_succ']; rfl
theorem ref01_Put_loop (m size : Nat) (hs : size ≤ 7) : ∀ (d i : Nat), i + d = size → (m : Int) ≤ 9223372036854775807 →
    Ev (fun k => posthorseref01_Put.l0 k ((m / 256 ^ i : Nat) : Int) (size : Int) ⟨(leB i m).toArray⟩ (i : Int)) (if m < 256 ^ size then ⟨(leB size m).toArray⟩ else ⟨#[]⟩) := by
  intro d
  induction d with
  | zero =>
    intro i hi hm
    obtain rfl : i = size := by omega
    refine Ev.from 1 fun k => ?_
    rw [posthorseref01_Put.l0, if_neg (by omega)]
    by_cases h : m < 256 ^ i
    · rw [if_pos h, Nat.div_eq_of_lt h, if_neg (by decide)]
    · have hp : 0 < m / 256 ^ i := Nat.div_pos (by omega) (Nat.pow_pos (by decide))
      rw [if_neg h, if_pos (by omega)]
  | succ d ih =>
    intro i hi hm
    have hle : m / 256 ^ i ≤ m := Nat.div_le_self _ _
    have hq1 : m / 256 ^ (i + 1) = m / 256 ^ i / 256 := by rw [Nat.div_div_eq_div_mul, ← Nat.pow_succ]
    have hsn := leB_snoc i m
    have ih' := ih (i + 1) (by omega) hm
    rw [hq1] at ih'
    generalize m / 256 ^ i = q at hle hsn ih' ⊢
    have e1 : wrap64 ((i : Int) + 1) = ((i + 1 : Nat) : Int) := by rw [w64 (by omega) (by omega)]; omega
    have e2 : wrap64 (Int.tdiv (q : Int) 256) = ((q / 256 : Nat) : Int) := by
      rw [Int.tdiv_eq_ediv_of_nonneg (by omega), w64 (by omega) (by omega)]; omega
    have e3 : (⟨(leB i m).toArray⟩ : ByteArray) ++ (strOfNums [(Int.tmod (q : Int) 256) % 256]) = ⟨(leB (i + 1) m).toArray⟩ := by
      rw [deq, dapp, hsn]
      have h1 : ((Int.tmod (q : Int) 256) % 256).toNat = q % 256 := by
        rw [Int.tmod_eq_emod_of_nonneg (by omega)]; omega
      simp only [strOfNums, List.map_cons, List.map_nil, h1]
    have e4 : (⟨(leB i m).toArray⟩ : ByteArray).size = i := by rw [← dlen]; simp [leB_len]
    have e5 : (strOfNums [(Int.tmod (q : Int) 256) % 256]).size = 1 := by simp [strOfNums, ByteArray.size]
    refine Ev.step (fun k => ?_) ih'
    rw [posthorseref01_Put.l0, if_pos (by omega)]
    simp only [Option.bind_some, e1, e2, e3, e4, e5]
    rw [if_pos (by omega)]
theorem ref01_Put_ev (n size : Int) (hn : (Lit.int .i64 n).wf = true) : Ev (fun k => posthorseref01_Put.f k n size) (lePutS n size) := by
  have bn := i64b hn
  have bad : ¬ (1 ≤ size ∧ size ≤ 7 ∧ 0 ≤ n ∧ n < 256 ^ size.toNat) → Ev (fun k => posthorseref01_Put.j0 k n size true) (lePutS n size) := by
    intro h
    refine Ev.from 1 fun k => ?_
    rw [posthorseref01_Put.j0, if_pos rfl, lePutS, if_neg h]
  unfold posthorseref01_Put.f
  by_cases h1 : size < 1
  · simp only [if_pos h1]; exact bad (by omega)
  · by_cases h2 : size > 7
    · simp only [if_neg h1, if_pos h2]; exact bad (by omega)
    · simp only [if_neg h1, if_neg h2]
      by_cases h3 : n < 0
      · rw [decide_eq_true h3]; exact bad (by omega)
      · rw [decide_eq_false h3]
        obtain ⟨s, rfl⟩ := Int.eq_ofNat_of_zero_le (show 0 ≤ size by omega)
        obtain ⟨m, rfl⟩ := Int.eq_ofNat_of_zero_le (show 0 ≤ n by omega)
        have := ref01_Put_loop m s (by omega) s 0 (by omega) (by omega)
        rw [Nat.pow_zero, Nat.div_one] at this
        have e5 : lePutS (m : Int) (s : Int) = (if m < 256 ^ s then ⟨(leB s m).toArray⟩ else ⟨#[]⟩) := by
          unfold lePutS
          rw [Int.toNat_natCast, Int.toNat_natCast]
          have hc : ((256 : Int) ^ s) = ((256 ^ s : Nat) : Int) := by rw [Int.natCast_pow]; rfl
          by_cases hm : m < 256 ^ s
          · rw [if_pos hm, if_pos ⟨by omega, by omega, by omega, by rw [hc]; exact Int.ofNat_lt.2 hm⟩]
          · rw [if_neg hm, if_neg (fun ⟨_, _, _, h⟩ => hm (by rw [hc] at h; exact Int.ofNat_lt.1 h))]
        rw [e5]
        exact Ev.step (fun k => by rw [posthorseref01_Put.j0, if_neg (by decide)]; rfl) this

/-! ### seal03 -/
/-- What the document's Seal answers. -/
def refSeal (kind : Int) (body : ByteArray) : ByteArray × Int := if kind < 1 ∨ kind > 255 then (⟨#[]⟩, 1) else if body.size > 504 then (⟨#[]⟩, 10) else (⟨(sealL kind.toNat body.data.toList).toArray⟩, 0)
theorem ref_Seal_loop (kind : Nat) (body : List UInt8) (hb : body.length ≤ 504) : ∀ (d i : Nat), i + d = 504 - body.length → Ev (fun k => posthorseref03_Seal.l0 k ⟨(headB kind ++ body ++ List.replicate i 0).toArray⟩) (⟨(sealL kind body).toArray⟩, 0) := by
  have sz : ∀ i, (⟨(headB kind ++ body ++ List.replicate i 0).toArray⟩ : ByteArray).size = 4 + body.length + i := fun i => by
    rw [← dlen]
    show (headB kind ++ body ++ List.replicate i 0).length = _
    simp [headB]; omega
  intro d
  induction d with
  | zero =>
    intro i hi
    obtain rfl : i = 504 - body.length := by omega
    have e : (headB kind ++ body ++ List.replicate (504 - body.length) 0) = bodyL kind body := rfl
    have s0 := sz (504 - body.length)
    rw [e] at s0 ⊢
    have hs := sumOfL_lt (bodyL kind body)
    refine Ev.step (f := fun k => (posthorseref03_Sum.f k ⟨(bodyL kind body).toArray⟩).bind fun t130 => ((posthorseref01_Put.f k (wrap64 t130) 4).bind fun t131 => if (⟨(bodyL kind body).toArray⟩ : ByteArray).size + t131.size ≤ 9223372036854775807 then some ((⟨(bodyL kind body).toArray⟩ : ByteArray) ++ t131, 0) else none)) (fun k => by rw [posthorseref03_Seal.l0_s, if_neg (by omega)]) ?_
    refine Ev.bind (ref03_Sum_ev _ (by omega)) ?_
    rw [show (⟨(bodyL kind body).toArray⟩ : ByteArray).data.toList = bodyL kind body from rfl, w64 (by omega) (by omega)]
    refine Ev.bind (ref01_Put_ev _ 4 (wf_of (by omega) (by omega))) ?_
    have e2 : lePutS (sumOfL (bodyL kind body) : Int) 4 = ⟨(sumB (bodyL kind body)).toArray⟩ := by
      unfold lePutS sumB
      rw [if_pos ⟨by omega, by omega, by omega, by show (sumOfL (bodyL kind body) : Int) < 256 ^ 4; omega⟩]; rfl
    have e4 : (⟨(sumB (bodyL kind body)).toArray⟩ : ByteArray).size = 4 := rfl
    rw [e2]
    refine Ev.from 0 fun k => ?_
    rw [if_pos (by rw [e4]; omega)]
    have e5 : (⟨(bodyL kind body).toArray⟩ : ByteArray) ++ ⟨(sumB (bodyL kind body)).toArray⟩ = ⟨(sealL kind body).toArray⟩ := by
      rw [deq, dapp]; rfl
    rw [e5]
  | succ d ih =>
    intro i hi
    have h := ih (i + 1) (by omega)
    refine Ev.step (fun k => ?_) h
    have e1 : (⟨#[0]⟩ : ByteArray).size = 1 := rfl
    rw [posthorseref03_Seal.l0_s, if_pos (by rw [sz]; omega), if_pos (by rw [sz, e1]; omega)]
    have e : (⟨(headB kind ++ body ++ List.replicate i 0).toArray⟩ : ByteArray) ++ ⟨#[0]⟩ = ⟨(headB kind ++ body ++ List.replicate (i + 1) 0).toArray⟩ := by
      rw [deq, dapp]
      show (headB kind ++ body ++ List.replicate i 0) ++ [0] = headB kind ++ body ++ List.replicate (i + 1) 0
      rw [List.append_assoc, ← List.replicate_succ']
    rw [e]
theorem ref_Seal_ev (kind : Int) (body : ByteArray) : Ev (fun k => posthorseref03_Seal.f k kind body) (refSeal kind body) := by
  have bad : kind < 1 ∨ kind > 255 → Ev (fun k => posthorseref03_Seal.j0 k kind body true) (refSeal kind body) := fun h => by
    refine Ev.from 1 fun k => ?_
    rw [posthorseref03_Seal.j0, if_pos rfl, refSeal, if_pos h]
  unfold posthorseref03_Seal.f
  by_cases h1 : kind < 1
  · simp only [if_pos h1]; exact bad (.inl h1)
  · simp only [if_neg h1]
    by_cases h2 : kind > 255
    · rw [decide_eq_true h2]; exact bad (.inr h2)
    · rw [decide_eq_false h2]
      unfold refSeal
      rw [if_neg (by omega)]
      refine Ev.step (fun k => by rw [posthorseref03_Seal.j0, if_neg (by decide)]) ?_
      by_cases h3 : body.size > 504
      · simp only [if_pos (show (body.size : Int) > 504 by omega), if_pos h3]; exact Ev.now _
      · simp only [if_neg (show ¬ (body.size : Int) > 504 by omega), if_neg h3]
        refine Ev.bind (Ev.now _) ?_
        have es : (strOfNums [kind % 256, 0]).size = 2 := rfl
        have e : (⟨#[80, 72]⟩ : ByteArray) ++ strOfNums [kind % 256, 0] ++ body = ⟨(headB kind.toNat ++ body.data.toList ++ List.replicate 0 0).toArray⟩ := by
          rw [deq, dapp, dapp]
          show [80, 72] ++ [UInt8.ofNat (kind % 256).toNat, UInt8.ofNat (0 : Int).toNat] ++ body.data.toList = headB kind.toNat ++ body.data.toList ++ []
          unfold headB
          rw [show (kind % 256).toNat = kind.toNat % 256 by omega]; simp
        simp only [if_pos (show 2 + (strOfNums [kind % 256, 0]).size ≤ 9223372036854775807 by rw [es]; decide), if_pos (show ((⟨#[80, 72]⟩ : ByteArray) ++ strOfNums [kind % 256, 0]).size + body.size ≤ 9223372036854775807 by rw [ByteArray.size_append, es]; show 2 + 2 + body.size ≤ _; omega)]
        rw [e]
        have := ref_Seal_loop kind.toNat body.data.toList (by rw [dlen]; omega) (504 - body.data.toList.length) 0 (by omega)
        exact this

/-! ### ref09 -/
theorem ref09_right (s j : Int) : posthorseref09_Right.f s j = some (rightL s j) := by
  unfold posthorseref09_Right.f rightL
  by_cases h1 : j ≥ 8
  · rw [if_pos h1]
    by_cases h2 : j ≤ 512
    · rw [if_pos h2]
      by_cases h3 : s ≤ 2048
      · rw [if_pos h3, w64 (n := 1 + j) (by omega) (by omega), w64 (n := 1 + j + 1) (by omega) (by omega), w64 (n := 1 + j + 1 + 4) (by omega) (by omega), w64 (by omega) (by omega)]
        congr 1; exact decide_eq_decide.2 (by omega)
      · rw [if_neg h3]; congr 1; exact (decide_eq_false (by omega)).symm
    · rw [if_neg h2]; congr 1; exact (decide_eq_false (by omega)).symm
  · rw [if_neg h1]; congr 1; exact (decide_eq_false (by omega)).symm

/-! ### SuperPuts -/
theorem ref09_put_ev (s j : Int) (hs : (Lit.int .i64 s).wf = true) (hj : (Lit.int .i64 j).wf = true) : Ev (fun k => posthorseref09_Put.f k s j) ((supPut s j).1, (supPut s j).2.getD 0) := by
  unfold posthorseref09_Put.f supPut
  rw [ref09_right]
  cases h : rightL s j with
  | false => exact Ev.now _
  | true =>
    simp only [Option.bind_some, if_true]
    refine Ev.bind (ref01_Put_ev s 2 hs) (Ev.bind (ref01_Put_ev j 2 hj) ?_)
    have h1 := put_size s
    have h2 := put_size j
    simp only [if_pos (show (lePutS s 2).size + (lePutS j 2).size ≤ 9223372036854775807 by omega)]
    rw [lay_put s j h]
    have hse := ref_Seal_ev 1 ⟨(layB s j).toArray⟩
    unfold refSeal at hse
    rw [if_neg (by omega), if_neg (by rw [lay_size]; omega)] at hse
    exact Ev.bind hse (Ev.now _)
theorem sup_get_put (s j : Int) (h : rightL s j = true) : supGet (sealL 1 (layB s j)) = (s, j, none) := by
  obtain ⟨h1, h2, h3, h4⟩ := right_range h
  have hl : (layB s j).length = 4 := by unfold layB; rw [List.length_append, leB_len, leB_len]
  have ho := open_seal 1 (layB s j) (by omega) (by omega) (by omega)
  rw [show (1 : Int).toNat = 1 from rfl] at ho
  unfold supGet
  rw [ho]
  simp only [Option.isNone_none, if_true]
  unfold supBody
  have e0 : ((layB s j) ++ List.replicate (504 - (layB s j).length) (0 : UInt8)).drop 4 = List.replicate 500 0 := by
    rw [List.drop_append_of_le_length (by omega), List.drop_of_length_le (by omega), hl]; rfl
  have e1 : ((layB s j) ++ List.replicate (504 - (layB s j).length) (0 : UInt8)).take 2 = leB 2 s.toNat := by
    rw [List.take_append_of_le_length (by omega)]
    unfold layB
    rw [List.take_append_of_le_length (by rw [leB_len]; exact Nat.le_refl _), List.take_of_length_le (by rw [leB_len]; exact Nat.le_refl _)]
  have e2 : (((layB s j) ++ List.replicate (504 - (layB s j).length) (0 : UInt8)).drop 2).take 2 = leB 2 j.toNat := by
    rw [List.drop_append_of_le_length (by omega), List.take_append_of_le_length (by rw [List.length_drop]; omega)]
    unfold layB
    rw [List.drop_append_of_le_length (by rw [leB_len]; exact Nat.le_refl _), List.drop_of_length_le (by rw [leB_len]; exact Nat.le_refl _), List.nil_append, List.take_of_length_le (by rw [leB_len]; exact Nat.le_refl _)]
  rw [e0, e1, e2, unB_leB, unB_leB, Nat.mod_eq_of_lt (by omega), Nat.mod_eq_of_lt (by omega), show ((s.toNat : Nat) : Int) = s by omega, show ((j.toNat : Nat) : Int) = j by omega, if_pos (by decide +kernel), if_pos h]
theorem SuperPuts : SuperPuts.Pure := by
  intro s j hs hj
  refine Ev.rounds (g := fun k => posthorselaw09_SuperPuts.f k s j) ?_
  unfold posthorselaw09_SuperPuts.f
  refine Ev.bind speaks_ev ?_
  simp only [if_true]
  refine Ev.bind (super_put_ev s j hs hj) (Ev.bind (ref09_put_ev s j hs hj) ?_)
  simp only [if_true]
  refine Ev.bind (a := (supPut s j).2.getD 0) (Ev.now _) ?_
  simp only [if_true]
  refine Ev.bind (super_get_ev _) ?_
  unfold supPut
  cases h : rightL s j with
  | false =>
    have e : supGet (⟨#[]⟩ : ByteArray).data.toList = (0, 0, some 4) := rfl
    simp only [Bool.false_eq_true, if_false, e]
    exact Ev.now _
  | true =>
    simp only [if_true]
    rw [sup_get_put s j h]
    simp only [Option.getD_none, Option.isNone_none, if_true, beq_self_eq_true, Bool.and_self]
    exact Ev.now _

end Go.Proofs.YtekjkbocblonmaaDoor.Pure
