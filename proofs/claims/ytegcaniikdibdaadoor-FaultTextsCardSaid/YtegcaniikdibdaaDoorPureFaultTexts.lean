/- FaultTexts: the pure law; for every input, no condition. -/
import Derived.Test.YtegcaniikdibdaaDoorVFaultTextsx25
import Derived.OpenShut
import Derived.Lib.IndexEntry
import Derived.Lib.ItoaLen
namespace Go.Proofs.YtegcaniikdibdaaDoor.Pure
open Go Go.RowKit Go.Proofs.YtegcaniikdibdaaDoor.VFaultTexts Go.Proofs.YtegcaniikdibdaaDoorW.PrintWords Go.Proofs.YtegcaniikdibdaaDoorW.PrintLast
set_option linter.unusedSimpArgs false
set_option linter.unusedVariables false

def FaultTexts.Pure : Prop := ∀ (a0 : Int) (l1 : List (S24)), (Lit.int .i64 a0).wf = true → (l1.length * 40 ≤ 140737488351232 ∧ l1.length ≤ maxLen ∧ ∀ l1y ∈ l1, (l1y.f0.size ≤ 140737488351232 ∧ (Lit.int .i64 l1y.f1).wf = true ∧ (Lit.int .i64 l1y.f2).wf = true ∧ True)) → ∃ k, posthorselaw02_FaultTexts.f k a0 l1 = some true
/-! ### base -/
theorem dl (s : ByteArray) : s.toList = s.data.toList := Lib.toList_data s
theorem deq {a b : ByteArray} : a = b ↔ a.data.toList = b.data.toList := ⟨fun h => by rw [h], fun h => Go.WideShapes.bytes_inj h⟩
theorem dapp (a b : ByteArray) : (a ++ b).data.toList = a.data.toList ++ b.data.toList := by simp
theorem dlen (a : ByteArray) : a.data.toList.length = a.size := by rw [Array.length_toList]; rfl
theorem w64 {n : Int} (h0 : -9223372036854775808 ≤ n) (h1 : n ≤ 9223372036854775807) : wrap64 n = n := by unfold wrap64; omega
theorem i64b {n : Int} (h : (Lit.int .i64 n).wf = true) : -9223372036854775808 ≤ n ∧ n ≤ 9223372036854775807 := bounds_i64 h
theorem u8w (n : Int) : IntKind.u8.wrap n = n % 256 := IntKind.wrap_u8 n
theorem Ev.all {α : Type} {g : Nat → Option α} {r : α} (h : ∀ k, g k = some r) : Ev g r := ⟨0, fun k _ => h k⟩
theorem Ev.bindS {α β : Type} {g : Nat → Option α} {f : Nat → α → Option β} {a : α} {r : β} (h : Ev g a) (k : Ev (fun n => f n a) r) : Ev (fun n => (g n).bind (f n)) r := Ev.bind h k
theorem Ev.from {α : Type} {g : Nat → Option α} {r : α} (j : Nat) (h : ∀ k, g (k + j) = some r) : Ev g r := ⟨j, fun k hk => by have := h (k - j); rwa [Nat.sub_add_cancel hk] at this⟩
theorem Ev.to {α : Type} {g : Nat → Option α} {r : α} (h : Ev g r) : ∃ k, g k = some r := h.rounds
theorem Ev.at_ {α : Type} {g : Nat → Option α} {r : α} (hg : ∀ k, LeO (g k) (g (k + 1))) {j : Nat} (h : g j = some r) : Ev g r := Ev.of hg h
theorem Ev.suc {α : Type} {g : Nat → Option α} {r : α} (h : Ev (fun k => g (k + 1)) r) : Ev g r := Ev.step (fun _ => rfl) h

/-! ### digits -/
theorem dig_nat : ∀ (u : Nat), (u : Int) ≤ 9223372036854775807 → Ev (fun k => posthorseref02_Digits.f k (u : Int)) ⟨(Lib.decDigits u).toArray⟩ := by
  intro u
  induction u using Nat.strongRecOn with
  | _ u ih =>
    intro hb
    refine Ev.suc ?_
    simp only [posthorseref02_Digits.f, if_pos (show (u : Int) ≥ 0 by omega)]
    refine Ev.suc ?_
    by_cases h : u < 10
    · simp only [decide_eq_true (show (u : Int) < 10 by omega), posthorseref02_Digits.j0, if_true]
      have e : strOfNums [wrap64 (48 + (u : Int)) % 256] = ⟨(Lib.decDigits u).toArray⟩ := by
        rw [Lib.decDigits_one h, w64 (by omega) (by omega)]
        unfold strOfNums
        have : ((48 + (u : Int)) % 256).toNat = 48 + u := by omega
        simp only [List.map_cons, List.map_nil, this]
      rw [e]
      exact Ev.now _
    · simp only [decide_eq_false (show ¬ (u : Int) < 10 by omega), posthorseref02_Digits.j0, Bool.false_eq_true, if_false, if_neg (show ¬ (u : Int) < 0 by omega)]
      have e1 : wrap64 (Int.tdiv (u : Int) 10) = ((u / 10 : Nat) : Int) := by
        rw [Int.tdiv_eq_ediv_of_nonneg (by omega), w64 (by omega) (by omega)]; omega
      have e2 : Int.tmod (u : Int) 10 = ((u % 10 : Nat) : Int) := by
        rw [Int.tmod_eq_emod_of_nonneg (by omega)]; omega
      rw [e1, e2]
      refine Ev.bind (ih (u / 10) (by omega) (by omega)) (Ev.bind (ih (u % 10) (by omega) (by omega)) ?_)
      have hl : (⟨(Lib.decDigits (u / 10)).toArray⟩ : ByteArray).size + (⟨(Lib.decDigits (u % 10)).toArray⟩ : ByteArray).size ≤ 9223372036854775807 := by
        have h1 := Lib.itoa_length_le ((u / 10 : Nat) : Int) (by omega) (by omega)
        have h2 := Lib.itoa_length_le ((u % 10 : Nat) : Int) (by omega) (by omega)
        rw [Lib.itoa_nonneg] at h1 h2
        show (Lib.decDigits (u / 10)).length + (Lib.decDigits (u % 10)).length ≤ _
        omega
      rw [if_pos hl]
      have e3 : (⟨(Lib.decDigits (u / 10)).toArray⟩ : ByteArray) ++ (⟨(Lib.decDigits (u % 10)).toArray⟩ : ByteArray) = ⟨(Lib.decDigits u).toArray⟩ := by
        rw [deq, dapp]
        show Lib.decDigits (u / 10) ++ Lib.decDigits (u % 10) = Lib.decDigits u
        rw [Lib.decDigits_one (show u % 10 < 10 by omega)]
        conv => rhs; rw [Lib.decDigits, dif_neg h]
      rw [e3]
      exact Ev.now _
theorem dig_neg : ∀ (u : Nat), 1 ≤ u → (u : Int) ≤ 9223372036854775808 → Ev (fun k => posthorseref02_Digits.f k (-(u : Int))) ⟨(45 :: Lib.decDigits u).toArray⟩ := by
  intro u
  induction u using Nat.strongRecOn with
  | _ u ih =>
    intro hu1 hb
    refine Ev.suc ?_
    simp only [posthorseref02_Digits.f, if_neg (show ¬ (-(u : Int) ≥ 0) by omega)]
    refine Ev.suc ?_
    simp only [posthorseref02_Digits.j0, Bool.false_eq_true, if_false, if_pos (show -(u : Int) < 0 by omega)]
    by_cases h : u < 10
    · simp only [if_pos (show -(u : Int) > -10 by omega), show wrap64 (- -(u : Int)) = (u : Int) from by rw [w64 (by omega) (by omega)]; omega]
      refine Ev.bind (dig_nat u (by omega)) ?_
      have hl : 1 + (⟨(Lib.decDigits u).toArray⟩ : ByteArray).size ≤ 9223372036854775807 := by
        have h1 := Lib.itoa_length_le (u : Int) (by omega) (by omega)
        rw [Lib.itoa_nonneg] at h1
        show 1 + (Lib.decDigits u).length ≤ _
        omega
      rw [if_pos hl]
      have e : (⟨#[45]⟩ : ByteArray) ++ (⟨(Lib.decDigits u).toArray⟩ : ByteArray) = ⟨(45 :: Lib.decDigits u).toArray⟩ := by rw [deq, dapp]; rfl
      rw [e]
      exact Ev.now _
    · have e1 : wrap64 (Int.tdiv (-(u : Int)) 10) = -((u / 10 : Nat) : Int) := by
        rw [Int.neg_tdiv, Int.tdiv_eq_ediv_of_nonneg (by omega), w64 (by omega) (by omega)]; omega
      have e2 : wrap64 (-(Int.tmod (-(u : Int)) 10)) = ((u % 10 : Nat) : Int) := by
        rw [Int.neg_tmod, Int.tmod_eq_emod_of_nonneg (by omega), w64 (by omega) (by omega)]; omega
      simp only [if_neg (show ¬ (-(u : Int) > -10) by omega), e1, e2]
      refine Ev.bind (ih (u / 10) (by omega) (by omega) (by omega)) (Ev.bind (dig_nat (u % 10) (by omega)) ?_)
      have hl : (⟨(45 :: Lib.decDigits (u / 10)).toArray⟩ : ByteArray).size + (⟨(Lib.decDigits (u % 10)).toArray⟩ : ByteArray).size ≤ 9223372036854775807 := by
        have h1 := Lib.itoa_length_le ((u / 10 : Nat) : Int) (by omega) (by omega)
        have h2 := Lib.itoa_length_le ((u % 10 : Nat) : Int) (by omega) (by omega)
        rw [Lib.itoa_nonneg] at h1 h2
        show (45 :: Lib.decDigits (u / 10)).length + (Lib.decDigits (u % 10)).length ≤ _
        rw [List.length_cons]
        omega
      rw [if_pos hl]
      have e3 : (⟨(45 :: Lib.decDigits (u / 10)).toArray⟩ : ByteArray) ++ (⟨(Lib.decDigits (u % 10)).toArray⟩ : ByteArray) = ⟨(45 :: Lib.decDigits u).toArray⟩ := by
        rw [deq, dapp]
        show 45 :: Lib.decDigits (u / 10) ++ Lib.decDigits (u % 10) = 45 :: Lib.decDigits u
        rw [Lib.decDigits_one (show u % 10 < 10 by omega), List.cons_append]
        conv => rhs; rw [Lib.decDigits, dif_neg h]
      rw [e3]
      exact Ev.now _
/-- Digits, of any number. -/
theorem dig_ev (n : Int) (h0 : -9223372036854775808 ≤ n) (h1 : n ≤ 9223372036854775807) : Ev (fun k => posthorseref02_Digits.f k n) ⟨(Lib.itoa n).toArray⟩ := by
  by_cases hn : 0 ≤ n
  · obtain ⟨u, rfl⟩ := Int.eq_ofNat_of_zero_le hn
    rw [Lib.itoa_nonneg]
    exact dig_nat u h1
  · obtain ⟨u, hu⟩ : ∃ u : Nat, n = -(u : Int) := ⟨n.natAbs, by omega⟩
    subst hu
    rw [Lib.itoa_neg u (by omega)]
    exact dig_neg u (by omega) (by omega)

/-! ### FaultTexts -/
theorem stepOk_ev : ∀ (l : List StepS), (∀ s ∈ l, (Lit.int .i64 s.f1).wf = true) → ∃ K, ∀ k, K ≤ k → l.all (stepOk k) = true := by
  intro l
  induction l with
  | nil => intro _; exact ⟨0, fun _ _ => rfl⟩
  | cons s l ih =>
    intro h
    obtain ⟨K1, h1⟩ := ih fun x hx => h x (List.mem_cons_of_mem _ hx)
    have hb := i64b (h s (List.mem_cons_self ..))
    obtain ⟨K2, h2⟩ := dig_ev s.f1 hb.1 hb.2
    refine ⟨max K1 K2, fun k hk => ?_⟩
    rw [List.all_cons, h1 k (by omega), Bool.and_true]
    unfold stepOk
    rw [decide_eq_true (h2 k (by omega)), decide_eq_true hb.1, decide_eq_true hb.2]
    simp
theorem FaultTexts : FaultTexts.Pure := by
  intro a0 l1 _ h
  obtain ⟨K, hK⟩ := stepOk_ev (l1.take 10) fun s hs => (h.2.2 s (List.mem_of_mem_take hs)).2.1
  refine ⟨K, ?_⟩
  unfold posthorselaw02_FaultTexts.f
  rw [if_pos (hK K (Nat.le_refl _))]

end Go.Proofs.YtegcaniikdibdaaDoor.Pure
