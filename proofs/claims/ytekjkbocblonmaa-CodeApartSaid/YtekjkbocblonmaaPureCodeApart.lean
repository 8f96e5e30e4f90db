/- CodeApart of layer 17: two programs (of up to twenty instructions) that are right have the same bytes just where they are the same; for every input, no condition. -/
import Derived.Test.YtekjkbocblonmaaVCodeApartx9
import Derived.OpenShut
import Derived.Lib.IndexEntry
namespace Go.Proofs.Ytekjkbocblonmaa.Pure
open Go Go.RowKit Go.Proofs.Ytekjkbocblonmaa.VCodeApart Go.Proofs.YtekjkbocblonmaaW.PrintWords Go.Proofs.YtekjkbocblonmaaW.PrintLast
set_option linter.unusedSimpArgs false
set_option linter.unusedVariables false

def CodeApart.Pure : Prop := ∀ (l0 : List (S41)) (l1 : List (S41)), (l0.length * 32 ≤ 140737488351232 ∧ l0.length ≤ maxLen ∧ ∀ l0y ∈ l0, ((Lit.int .i64 l0y.f0).wf = true ∧ (Lit.int .i64 l0y.f1).wf = true ∧ (Lit.int .i64 l0y.f2).wf = true ∧ (Lit.int .i64 l0y.f3).wf = true)) → (l1.length * 32 ≤ 140737488351232 ∧ l1.length ≤ maxLen ∧ ∀ l1y ∈ l1, ((Lit.int .i64 l1y.f0).wf = true ∧ (Lit.int .i64 l1y.f1).wf = true ∧ (Lit.int .i64 l1y.f2).wf = true ∧ (Lit.int .i64 l1y.f3).wf = true)) → ∃ k, posthorselaw17_CodeApart.f k l0 l1 = some true
/-! ### base -/
theorem dl (s : ByteArray) : s.toList = s.data.toList := Lib.toList_data s
theorem deq {a b : ByteArray} : a = b ↔ a.data.toList = b.data.toList := ⟨fun h => by rw [h], fun h => Go.WideShapes.bytes_inj h⟩
theorem dapp (a b : ByteArray) : (a ++ b).data.toList = a.data.toList ++ b.data.toList := by simp
theorem dlen (a : ByteArray) : a.data.toList.length = a.size := by rw [Array.length_toList]; rfl
theorem w64 {n : Int} (h0 : -9223372036854775808 ≤ n) (h1 : n ≤ 9223372036854775807) : wrap64 n = n := by unfold wrap64; omega
theorem i64b {n : Int} (h : (Lit.int .i64 n).wf = true) : -9223372036854775808 ≤ n ∧ n ≤ 9223372036854775807 := bounds_i64 h
theorem u8w (n : Int) : IntKind.u8.wrap n = n % 256 := IntKind.wrap_u8 n
theorem Ev.all {α : Type} {g : Nat → Option α} {r : α} (h : ∀ k, g k = some r) : Ev g r := ⟨0, fun k _ => h k⟩
theorem Ev.bindS {α β : Type} {g : Nat → Option α} {f : Nat → α → Option β} {a : α} {r : β} (h : Ev g a) (k : Ev (fun n => f n a) r) : Ev (fun n => (g n).bind (f n)) r := Ev.bind h k
theorem Ev.from {α : Type} {g : Nat → Option α} {r : α} (j : Nat) (h : ∀ k, g (k + j) = some r) : Ev g r := ⟨j, fun k hk => by have := h (k - j); rwa [Nat.sub_add_cancel hk] at this⟩
theorem Ev.to {α : Type} {g : Nat → Option α} {r : α} (h : Ev g r) : ∃ k, g k = some r := h.rounds
theorem Ev.at_ {α : Type} {g : Nat → Option α} {r : α} (hg : ∀ k, LeO (g k) (g (k + 1))) {j : Nat} (h : g j = some r) : Ev g r := Ev.of hg h

/-! ### le -/
/-- The bytes of a number, the lowest first. -/
def leB : Nat → Nat → List UInt8
  | 0, _ => []
  | s + 1, n => UInt8.ofNat (n % 256) :: leB s (n / 256)
theorem leB_len : ∀ s n, (leB s n).length = s
  | 0, _ => rfl
  | s + 1, n => by rw [leB, List.length_cons, leB_len s]
/-- .. and back. -/
def unB : List UInt8 → Nat
  | [] => 0
  | b :: r => b.toNat + 256 * unB r
theorem unB_leB : ∀ s n, unB (leB s n) = n % 256 ^ s
  | 0, n => by simp [leB, unB, Nat.mod_one]
  | s + 1, n => by
    rw [leB, unB, unB_leB s]
    have h1 : (UInt8.ofNat (n % 256)).toNat = n % 256 := by simp
    rw [h1, Nat.pow_succ', Nat.mod_mul]
theorem unB_lt : ∀ l : List UInt8, unB l < 256 ^ l.length
  | [] => by simp [unB]
  | b :: r => by
    have := unB_lt r
    have := b.toNat_lt
    rw [unB, List.length_cons, Nat.pow_succ]
    omega
theorem leB_unB : ∀ l : List UInt8, leB l.length (unB l) = l
  | [] => rfl
  | b :: r => by
    have hb := b.toNat_lt
    rw [unB, List.length_cons, leB]
    have h1 : (b.toNat + 256 * unB r) % 256 = b.toNat := by omega
    have h2 : (b.toNat + 256 * unB r) / 256 = unB r := by omega
    rw [h1, h2, leB_unB r]; simp
theorem leB_get : ∀ (s n j : Nat), j < s → (leB s n)[j]? = some (UInt8.ofNat (n / 256 ^ j % 256))
  | s + 1, n, 0, _ => by simp [leB]
  | s + 1, n, j + 1, h => by
    rw [leB, List.getElem?_cons_succ, leB_get s _ j (by omega), Nat.div_div_eq_div_mul, Nat.pow_succ']
/-- What Put answers. -/
def lePutS (n size : Int) : ByteArray := if 1 ≤ size ∧ size ≤ 7 ∧ 0 ≤ n ∧ n < 256 ^ size.toNat then ⟨(leB size.toNat n.toNat).toArray⟩ else ⟨#[]⟩
/-- The row that Put fills, behind i rounds. -/
def leRow (n : Int) (size i : Nat) : List Int := (List.range size).map fun j => if j < i then n / 256 ^ j % 256 else 0
theorem leRow_len (n : Int) (size i : Nat) : (leRow n size i).length = size := by simp [leRow]
theorem leRow_set (n : Int) (size i : Nat) (_ : i < size) : (leRow n size i).set i (n / 256 ^ i % 256) = leRow n size (i + 1) := by
  apply List.ext_getElem
  · simp [leRow]
  · intro j h1 h2
    simp only [leRow, List.length_map, List.length_range, List.length_set] at h1 h2
    rw [List.getElem_set]
    simp only [leRow, List.getElem_map, List.getElem_range]
    by_cases e : i = j
    · subst e; simp
    · rw [if_neg e]
      by_cases hj : j < i
      · rw [if_pos hj, if_pos (by omega)]
      · rw [if_neg hj, if_neg (by omega)]
theorem divcast (m s : Nat) : (m : Int) / 256 ^ s = ((m / 256 ^ s : Nat) : Int) := by
  rw [Int.natCast_ediv]; congr 1
theorem leRow_full (n : Nat) (size : Nat) : Go.strOfNums (leRow n size size) = ⟨(leB size n).toArray⟩ := by
  unfold Go.strOfNums
  congr 2
  apply List.ext_getElem?
  intro j
  by_cases hj : j < size
  · rw [leB_get _ _ _ hj, leRow, List.getElem?_map, List.getElem?_map, List.getElem?_range hj]
    simp only [Option.map_some, if_pos hj]
    have : ((n : Int) / 256 ^ j % 256).toNat = n / 256 ^ j % 256 := by
      have h1 : ((n : Int) / 256 ^ j % 256) = ((n / 256 ^ j % 256 : Nat) : Int) := by rw [divcast]; rfl
      rw [h1, Int.toNat_natCast]
    rw [this]
  · rw [List.getElem?_eq_none (by simp [leRow]; omega), List.getElem?_eq_none (by rw [leB_len]; omega)]
theorem shr_pow (n : Int) (i : Nat) (hi : i ≤ 7) : shr .i64 n (wrap64 (8 * (i : Int))) = n / 256 ^ i := by
  rw [w64 (by omega) (by omega)]
  unfold shr
  have h1 : min (8 * (i : Int)).toNat (IntKind.bits .i64) = 8 * i := by
    have h2 : (8 * (i : Int)).toNat = 8 * i := by omega
    rw [h2]; show min (8 * i) 64 = 8 * i; omega
  rw [h1]
  have h3 : (2 : Int) ^ (8 * i) = 256 ^ i := by
    have h := congrArg (fun x : Nat => (x : Int)) (Nat.pow_mul 2 8 i)
    simp only [Int.natCast_pow] at h
    exact h
  rw [h3]
theorem le_Put_loop (n : Int) (size : Nat) (hs : size ≤ 7) (h0 : 0 ≤ n) : ∀ (d i : Nat), i + d = size → Ev (fun k => le_Put.l0 k n (leRow n size i) (size : Int) (i : Int)) (Go.strOfNums (leRow n size size)) := by
  intro d
  induction d with
  | zero =>
    intro i hi
    obtain rfl : i = size := by omega
    refine Ev.from 1 fun k => ?_
    rw [le_Put.l0, if_neg (by omega)]
  | succ d ih =>
    intro i hi
    refine Ev.step (f := fun k => le_Put.l0 k n (leRow n size (i + 1)) (size : Int) ((i + 1 : Nat) : Int)) (fun k => ?_) (ih (i + 1) (by omega))
    have e1 : wrap64 (8 * (i : Int)) = 8 * (i : Int) := w64 (by omega) (by omega)
    have e2 : wrap64 ((i : Int) + 1) = ((i + 1 : Nat) : Int) := by rw [w64 (by omega) (by omega)]; omega
    rw [le_Put.l0, if_pos (by omega), if_pos (by rw [e1]; omega), if_pos (by omega), if_pos (by rw [leRow_len]; omega), e2, shr_pow n i (by omega), Int.toNat_natCast, leRow_set n size i (by omega)]
theorem le_Put_ev (n size : Int) (hn : (Lit.int .i64 n).wf = true) : Ev (fun k => le_Put.f k n size) (lePutS n size) := by
  have bn := i64b hn
  have bad : ∀ (n size : Int), ¬ (1 ≤ size ∧ size ≤ 7 ∧ 0 ≤ n ∧ n < 256 ^ size.toNat) → Ev (fun k => le_Put.j0 k n size true) (lePutS n size) := by
    intro n size h
    refine Ev.from 1 fun k => ?_
    rw [le_Put.j0, if_pos rfl, lePutS, if_neg h]
  unfold le_Put.f
  by_cases h1 : size < 1
  · simp only [if_pos h1]; exact bad n size (by omega)
  · by_cases h2 : size > 7
    · simp only [if_neg h1, if_pos h2]; exact bad n size (by omega)
    · by_cases h3 : n < 0
      · simp only [if_neg h1, if_neg h2, if_pos h3]; exact bad n size (by omega)
      · obtain ⟨s, rfl⟩ := Int.eq_ofNat_of_zero_le (show 0 ≤ size by omega)
        obtain ⟨m, rfl⟩ := Int.eq_ofNat_of_zero_le (show 0 ≤ n by omega)
        have e1 : wrap64 (8 * (s : Int)) = 8 * (s : Int) := w64 (by omega) (by omega)
        simp only [if_neg h1, if_neg h2, if_neg h3, if_pos (show 0 ≤ wrap64 (8 * (s : Int)) by rw [e1]; omega)]
        rw [shr_pow _ s (by omega)]
        by_cases h4 : m < 256 ^ s
        · have e3 : ((m : Int) / 256 ^ s != 0) = false := by
            rw [divcast, Nat.div_eq_of_lt h4]; rfl
          rw [e3]
          refine Ev.step (f := fun k => le_Put.l0 k (m : Int) (leRow m s 0) (s : Int) ((0 : Nat) : Int)) (fun k => ?_) ?_
          · rw [le_Put.j0, if_neg (by decide), if_pos (by omega), if_pos (by omega)]
            have e4 : (List.replicate (s : Int).toNat 0 : List Int) = leRow m s 0 := by
              rw [Int.toNat_natCast]
              apply List.ext_getElem
              · simp [leRow]
              · intro j h1 h2; simp [leRow]
            simp only [Option.bind_some, e4, leRow_len]
            rfl
          · have := le_Put_loop (m : Int) s (by omega) (by omega) s 0 (by omega)
            rw [leRow_full] at this
            have e5 : lePutS (m : Int) (s : Int) = ⟨(leB s m).toArray⟩ := by
              unfold lePutS
              rw [if_pos ⟨by omega, by omega, by omega, by rw [Int.toNat_natCast]; have h' := Int.ofNat_lt.2 h4; rw [Int.natCast_pow] at h'; exact h'⟩, Int.toNat_natCast, Int.toNat_natCast]
            rw [e5]; exact this
        · have e3 : ((m : Int) / 256 ^ s != 0) = true := by
            rw [divcast, bne_iff_ne]
            have : 0 < m / 256 ^ s := Nat.div_pos (by omega) (Nat.pow_pos (by decide))
            omega
          rw [e3]
          refine bad _ _ ?_
          rw [Int.toNat_natCast]
          intro ⟨_, _, _, h⟩
          have h' : ((m : Nat) : Int) < ((256 ^ s : Nat) : Int) := by rw [Int.natCast_pow]; exact h
          exact h4 (Int.ofNat_lt.1 h')

/-! ### code17 -/
abbrev Ins := S40
abbrev zIns := z40
theorem j3_t (k : Nat) (b : Bool) (op d s i : Int) : ∃ r, code_Right.j3 (k + 1) b op d s i = some r ∧ (r = true → b = true) := by
  rw [code_Right.j3]
  cases b
  · exact ⟨false, by simp, by simp⟩
  · exact ⟨_, by rw [if_pos rfl], fun _ => rfl⟩
theorem j2_t (k : Nat) (x : Int) (b : Bool) (op d s i : Int) : ∃ r, code_Right.j2 (k + 2) x b op d s i = some r ∧ (r = true → b = true ∨ (0 ≤ x ∧ x ≤ 20)) := by
  rw [code_Right.j2]
  cases b
  · rw [if_neg (by decide)]
    by_cases h0 : x = 0
    · obtain ⟨r, h, _⟩ := j3_t k (x == 0) op d s i
      rw [if_pos h0]; exact ⟨r, h, fun _ => .inr (by omega)⟩
    · by_cases h1 : x = 4
      · obtain ⟨r, h, _⟩ := j3_t k (x == 4) op d s i
        rw [if_neg h0, if_pos h1]; exact ⟨r, h, fun _ => .inr (by omega)⟩
      · by_cases h2 : x = 5
        · obtain ⟨r, h, _⟩ := j3_t k (x == 5) op d s i
          rw [if_neg h0, if_neg h1, if_pos h2]; exact ⟨r, h, fun _ => .inr (by omega)⟩
        · obtain ⟨r, h, h3⟩ := j3_t k (x == 6) op d s i
          rw [if_neg h0, if_neg h1, if_neg h2]; exact ⟨r, h, fun e => .inr (by have := h3 e; simp at this; omega)⟩
  · rw [if_pos rfl]
    by_cases h0 : d = 0
    · rw [if_pos h0]; exact ⟨_, rfl, fun _ => .inl rfl⟩
    · rw [if_neg h0]; exact ⟨_, rfl, fun _ => .inl rfl⟩
theorem j1_t (k : Nat) (x : Int) (b : Bool) (op d s i : Int) : ∃ r, code_Right.j1 (k + 3) x b op d s i = some r ∧ (r = true → b = true ∨ (0 ≤ x ∧ x ≤ 20)) := by
  rw [code_Right.j1]
  cases b
  · rw [if_neg (by decide)]
    have key : ∀ n : Int, 0 ≤ n → n ≤ 20 → ∃ r, code_Right.j2 (k + 2) x (x == n) op d s i = some r ∧ (r = true → false = true ∨ (0 ≤ x ∧ x ≤ 20)) := fun n h0 h20 => by
      obtain ⟨r, h, h3⟩ := j2_t k x (x == n) op d s i
      refine ⟨r, h, fun e => .inr ?_⟩
      rcases h3 e with h4 | h4
      · simp at h4; omega
      · exact h4
    by_cases h0 : x = 12
    · rw [if_pos h0]; exact key 12 (by omega) (by omega)
    · by_cases h1 : x = 17
      · rw [if_neg h0, if_pos h1]; exact key 17 (by omega) (by omega)
      · by_cases h2 : x = 18
        · rw [if_neg h0, if_neg h1, if_pos h2]; exact key 18 (by omega) (by omega)
        · by_cases h3 : x = 19
          · rw [if_neg h0, if_neg h1, if_neg h2, if_pos h3]; exact key 19 (by omega) (by omega)
          · rw [if_neg h0, if_neg h1, if_neg h2, if_neg h3]; exact key 20 (by omega) (by omega)
  · rw [if_pos rfl]; exact ⟨true, rfl, fun _ => .inl rfl⟩
theorem j0_t (k : Nat) (b : Bool) (op d s i : Int) : ∃ r, code_Right.j0 (k + 4) b op d s i = some r ∧ (r = true → b = false ∧ 0 ≤ op ∧ op ≤ 20) := by
  rw [code_Right.j0]
  cases b
  · rw [if_neg (by decide)]
    have key : ∀ n : Int, 0 ≤ n → n ≤ 20 → ∃ r, code_Right.j1 (k + 3) op (op == n) op d s i = some r ∧ (r = true → false = false ∧ 0 ≤ op ∧ op ≤ 20) := fun n h0 h20 => by
      obtain ⟨r, h, h3⟩ := j1_t k op (op == n) op d s i
      refine ⟨r, h, fun e => ⟨rfl, ?_⟩⟩
      rcases h3 e with h4 | h4
      · simp at h4; omega
      · exact h4
    have pick : ∀ (c : Prop) [Decidable c] (n : Int) (e : Option Bool), 0 ≤ n → n ≤ 20 → (∃ r, e = some r ∧ (r = true → false = false ∧ 0 ≤ op ∧ op ≤ 20)) → ∃ r, (if c then code_Right.j1 (k + 3) op (op == n) op d s i else e) = some r ∧ (r = true → false = false ∧ 0 ≤ op ∧ op ≤ 20) := fun c _ n e h0 h1 he => by
      by_cases hc : c
      · rw [if_pos hc]; exact key n h0 h1
      · rw [if_neg hc]; exact he
    refine pick _ 1 _ (by omega) (by omega) (pick _ 2 _ (by omega) (by omega) (pick _ 3 _ (by omega) (by omega) (pick _ 7 _ (by omega) (by omega) (pick _ 8 _ (by omega) (by omega) (pick _ 9 _ (by omega) (by omega) (pick _ 10 _ (by omega) (by omega) (pick _ 11 _ (by omega) (by omega) (pick _ 13 _ (by omega) (by omega) (pick _ 14 _ (by omega) (by omega) (pick _ 15 _ (by omega) (by omega) (key 16 (by omega) (by omega))))))))))))
  · rw [if_pos rfl]; exact ⟨false, rfl, by simp⟩
theorem imm_t (k : Nat) (op d s i : Int) : ∃ r, code_Ins_imm.f (k + 1) op d s i = some r := by
  have j0 : ∀ b, ∃ r, code_Ins_imm.j0 (k + 1) op b op d s i = some r := fun b => by
    rw [code_Ins_imm.j0]
    repeat' split
    all_goals exact ⟨_, rfl⟩
  unfold code_Ins_imm.f
  repeat' split
  all_goals first | exact ⟨_, rfl⟩ | exact j0 _
theorem right_t (x : Ins) : ∃ r, code_Right.f 9 x.f0 x.f1 x.f2 x.f3 = some r ∧ (r = true → 0 ≤ x.f0 ∧ x.f0 ≤ 20 ∧ 0 ≤ x.f1 ∧ x.f1 < 8 ∧ 0 ≤ x.f2 ∧ x.f2 < 8 ∧ -2147483648 ≤ x.f3 ∧ x.f3 < 2147483648) := by
  have reg : ∀ a, code_register.f a = some (decide (0 ≤ a ∧ a < 8)) := fun a => by
    unfold code_register.f
    by_cases h : a ≥ 0
    · rw [if_pos h]; congr 1; exact decide_eq_decide.2 (by omega)
    · rw [if_neg h]; congr 1; exact (decide_eq_false (by omega)).symm
  have bad : ∃ r, code_Right.j0 9 true x.f0 x.f1 x.f2 x.f3 = some r ∧ (r = true → 0 ≤ x.f0 ∧ x.f0 ≤ 20 ∧ 0 ≤ x.f1 ∧ x.f1 < 8 ∧ 0 ≤ x.f2 ∧ x.f2 < 8 ∧ -2147483648 ≤ x.f3 ∧ x.f3 < 2147483648) := by
    obtain ⟨r, h, h2⟩ := j0_t 5 true x.f0 x.f1 x.f2 x.f3
    exact ⟨r, h, fun e => by have := h2 e; simp at this⟩
  unfold code_Right.f
  rw [reg, reg]
  simp only [Option.bind_some, decide_eq_true_eq]
  by_cases h1 : 0 ≤ x.f1 ∧ x.f1 < 8
  · rw [if_pos h1]
    by_cases h2 : 0 ≤ x.f2 ∧ x.f2 < 8
    · rw [if_pos h2]
      by_cases h3 : x.f3 < -2147483648
      · rw [if_pos h3]; exact bad
      · rw [if_neg h3]
        by_cases h4 : x.f3 ≥ 2147483648
        · rw [if_pos h4]; exact bad
        · rw [if_neg h4]
          obtain ⟨b, hb⟩ := imm_t 8 x.f0 x.f1 x.f2 x.f3
          rw [hb]; simp only [Option.bind_some]
          obtain ⟨r, h, h5⟩ := j0_t 5 (!b) x.f0 x.f1 x.f2 x.f3
          exact ⟨r, h, fun e => by have := h5 e; omega⟩
    · rw [if_neg h2]; exact bad
  · rw [if_neg h1]; exact bad
/-- May there be such an instruction? -/
def rightB (x : Ins) : Bool := (code_Right.f 9 x.f0 x.f1 x.f2 x.f3).getD false
theorem right_ev (x : Ins) : Ev (fun k => code_Right.f k x.f0 x.f1 x.f2 x.f3) (rightB x) := by
  obtain ⟨r, h, _⟩ := right_t x
  have e : rightB x = r := by unfold rightB; rw [h]; rfl
  rw [e]
  exact Ev.of (code_Right.mono _ _ _ _) h
theorem right_range {x : Ins} (hx : rightB x = true) : 0 ≤ x.f0 ∧ x.f0 ≤ 20 ∧ 0 ≤ x.f1 ∧ x.f1 < 8 ∧ 0 ≤ x.f2 ∧ x.f2 < 8 ∧ -2147483648 ≤ x.f3 ∧ x.f3 < 2147483648 := by
  obtain ⟨r, h, h2⟩ := right_t x
  refine h2 ?_
  unfold rightB at hx; rw [h] at hx; exact hx
/-- An instruction's bytes. -/
def insB (x : Ins) : List UInt8 := [UInt8.ofNat (x.f0 % 256).toNat, UInt8.ofNat (x.f1 % 256).toNat, UInt8.ofNat (x.f2 % 256).toNat, 0] ++ leB 4 (x.f3 + 2147483648).toNat
theorem insB_len (x : Ins) : (insB x).length = 8 := by simp [insB, leB_len]
/-- A program's bytes. -/
def putB (l : List Ins) : List UInt8 := l.flatMap insB
theorem putB_len : ∀ l : List Ins, (putB l).length = 8 * l.length
  | [] => rfl
  | x :: r => by
    have h := putB_len r
    unfold putB at h ⊢
    rw [List.flatMap_cons, List.length_append, insB_len, h, List.length_cons]; omega
theorem ofNat_inj {a b : Nat} (ha : a < 256) (hb : b < 256) (h : UInt8.ofNat a = UInt8.ofNat b) : a = b := by
  have := congrArg UInt8.toNat h
  simp at this
  omega
theorem insB_inj {x y : Ins} (hx : rightB x = true) (hy : rightB y = true) (h : insB x = insB y) : x = y := by
  obtain ⟨x1, x2, x3, x4, x5, x6, x7, x8⟩ := right_range hx
  obtain ⟨y1, y2, y3, y4, y5, y6, y7, y8⟩ := right_range hy
  unfold insB at h
  have hh := List.append_inj h (by simp)
  simp only [List.cons.injEq, and_true] at hh
  obtain ⟨⟨h0, h1, h2⟩, h3⟩ := hh
  have e0 := ofNat_inj (by omega) (by omega) h0
  have e1 := ofNat_inj (by omega) (by omega) h1
  have e2 := ofNat_inj (by omega) (by omega) h2
  have e3 := congrArg unB h3
  rw [unB_leB, unB_leB, Nat.mod_eq_of_lt (by omega), Nat.mod_eq_of_lt (by omega)] at e3
  cases x; cases y
  simp only at *
  congr 1 <;> omega
theorem putB_inj : ∀ {a b : List Ins}, (∀ x ∈ a, rightB x = true) → (∀ x ∈ b, rightB x = true) → putB a = putB b → a = b
  | [], [], _, _, _ => rfl
  | [], y :: b, _, _, h => by
    have := congrArg List.length h
    rw [putB_len, putB_len] at this; simp at this
  | x :: a, [], _, _, h => by
    have := congrArg List.length h
    rw [putB_len, putB_len] at this; simp at this
  | x :: a, y :: b, ha, hb, h => by
    unfold putB at h
    rw [List.flatMap_cons, List.flatMap_cons] at h
    obtain ⟨h1, h2⟩ := List.append_inj h (by rw [insB_len, insB_len])
    rw [insB_inj (ha x (by simp)) (hb y (by simp)) h1, putB_inj (fun z hz => ha z (by simp [hz])) (fun z hz => hb z (by simp [hz])) h2]
theorem step_bytes (x : Ins) (hx : rightB x = true) (acc : ByteArray) (r : List UInt8) :
    (acc ++ (Go.strOfNums [IntKind.u8.wrap x.f0, IntKind.u8.wrap x.f1, IntKind.u8.wrap x.f2, 0] ++ lePutS (wrap64 (x.f3 + 2147483648)) 4)) ++ ⟨r.toArray⟩ = acc ++ ⟨(insB x ++ r).toArray⟩ := by
  obtain ⟨x1, x2, x3, x4, x5, x6, x7, x8⟩ := right_range hx
  rw [deq]
  rw [w64 (by omega) (by omega), lePutS, if_pos ⟨by omega, by omega, by omega, by
    show x.f3 + 2147483648 < 256 ^ 4
    omega⟩]
  simp [dapp, insB, Go.strOfNums, u8w]
theorem code_Put_loop (l : List Ins) (hl : l.length ≤ 128) (hw : ∀ x ∈ l, (Lit.int .i64 x.f3).wf = true) : ∀ (d i : Nat) (acc : ByteArray), i + d = l.length → acc.size ≤ 11 * i →
    Ev (fun k => code_Put.l0 k l acc (i : Int)) (if (l.drop i).all rightB then (acc ++ ⟨(putB (l.drop i)).toArray⟩, none) else (⟨#[]⟩, some 1)) := by
  intro d
  induction d with
  | zero =>
    intro i acc hi ha
    refine Ev.from 1 fun k => ?_
    rw [code_Put.l0, if_neg (by omega), List.drop_of_length_le (by omega)]
    simp only [List.all_nil, if_true, Option.some.injEq, Prod.mk.injEq, and_true]
    rw [deq]; simp [putB]
  | succ d ih =>
    intro i acc hi ha
    have hlt : i < l.length := by omega
    have hd : l.drop i = l[i] :: l.drop (i + 1) := List.drop_eq_getElem_cons hlt
    have hrd : rd_T40 l (i : Int) = l[i] := by
      unfold rd_T40
      rw [Int.toNat_natCast, List.getD_eq_getElem?_getD, List.getElem?_eq_getElem hlt]; rfl
    rw [hd]
    generalize hx : l[i] = x at *
    have hwx : (Lit.int .i64 x.f3).wf = true := by rw [← hx]; exact hw _ (List.getElem_mem hlt)
    refine Ev.step (f := fun k => (code_Right.f k x.f0 x.f1 x.f2 x.f3).bind fun t => if t = true then ((le_Put.f k (wrap64 (x.f3 + 2147483648)) 4).bind fun s => if acc.size + s.size ≤ 140737488000000 then code_Put.l0 k l (acc ++ (Go.strOfNums [IntKind.u8.wrap x.f0, IntKind.u8.wrap x.f1, IntKind.u8.wrap x.f2, 0] ++ s)) ((i : Int) + 1) else none) else some (⟨#[]⟩, some 1)) (fun k => by rw [code_Put.l0, if_pos (by omega), hrd]) ?_
    refine Ev.bind (right_ev x) ?_
    cases hr : rightB x with
    | false =>
      refine Ev.from 0 fun k => ?_
      simp [List.all_cons, hr]
    | true =>
      simp only [if_true]
      refine Ev.bind (le_Put_ev _ 4 (wrap64_wf _)) ?_
      have hsz : (lePutS (wrap64 (x.f3 + 2147483648)) 4).size ≤ 4 := by
        unfold lePutS
        split
        · rw [← dlen]; simp [leB_len]
        · rw [← dlen]; simp
      simp only [if_pos (show acc.size + (lePutS (wrap64 (x.f3 + 2147483648)) 4).size ≤ 140737488000000 by omega)]
      have e1 : ((i : Int) + 1) = ((i + 1 : Nat) : Int) := by omega
      rw [e1]
      have := ih (i + 1) (acc ++ (Go.strOfNums [IntKind.u8.wrap x.f0, IntKind.u8.wrap x.f1, IntKind.u8.wrap x.f2, 0] ++ lePutS (wrap64 (x.f3 + 2147483648)) 4)) (by omega) (by
        rw [ByteArray.size_append, ByteArray.size_append]
        have : (Go.strOfNums [IntKind.u8.wrap x.f0, IntKind.u8.wrap x.f1, IntKind.u8.wrap x.f2, 0]).size = 4 := by simp [Go.strOfNums, ByteArray.size]
        omega)
      rw [step_bytes x hr] at this
      simpa [List.all_cons, hr, putB] using this
/-- What Put answers. -/
def putS (l : List Ins) : ByteArray × Option Int := if 128 < l.length then (⟨#[]⟩, some 10) else if l.all rightB then (⟨(putB l).toArray⟩, none) else (⟨#[]⟩, some 1)
theorem code_Put_ev (l : List Ins) (hw : ∀ x ∈ l, (Lit.int .i64 x.f3).wf = true) : Ev (fun k => code_Put.f k l) (putS l) := by
  unfold code_Put.f putS
  by_cases h : 128 < l.length
  · simp only [if_pos (show (l.length : Int) > 128 by omega), if_pos h]; exact Ev.now _
  · simp only [if_neg (show ¬ (l.length : Int) > 128 by omega), if_neg h]
    have := code_Put_loop l (by omega) hw l.length 0 ⟨#[]⟩ (by omega) (by simp [ByteArray.size])
    have e : (⟨#[]⟩ : ByteArray) ++ ⟨(putB l).toArray⟩ = ⟨(putB l).toArray⟩ := by rw [deq]; simp
    rw [List.drop_zero, e] at this
    exact this

/-! ### CodeApart -/
abbrev Raw := S41
def conv (x : Raw) : Ins := ⟨x.f0, x.f1, x.f2, x.f3⟩
theorem rdRaw (l : List Raw) (i : Nat) (h : i < l.length) : rd_T41 l (i : Int) = l[i] := by
  unfold rd_T41
  rw [Int.toNat_natCast, List.getD_eq_getElem?_getD, List.getElem?_eq_getElem h]; rfl
theorem rdIns (l : List Ins) (i : Nat) (h : i < l.length) : rd_T40 l (i : Int) = l[i] := by
  unfold rd_T40
  rw [Int.toNat_natCast, List.getD_eq_getElem?_getD, List.getElem?_eq_getElem h]; rfl
/-- The first n of a list, as instructions. -/
def firsts (l : List Raw) (n : Nat) : List Ins := (l.take n).map conv
theorem firsts_snoc (l : List Raw) (i : Nat) (h : i < l.length) : firsts l (i + 1) = firsts l i ++ [conv l[i]] := by
  unfold firsts
  rw [List.take_succ_eq_append_getElem h, List.map_append]; rfl
theorem firsts_len (l : List Raw) (n : Nat) : (firsts l n).length = min n l.length := by simp [firsts]
theorem speaks_ev : Ev (fun k => posthorselaw17_speaks.f k) true := Ev.of posthorselaw17_speaks.mono (k := 40) (by decide +kernel)
theorem loop2 (a b : List Ins) (s t : ByteArray) (ha : ∀ x ∈ a, rightB x = true) (hb : ∀ x ∈ b, rightB x = true) (hla : a.length ≤ 20) (hs : s.data.toList = putB a) (ht : t.data.toList = putB b) :
    ∀ (d i : Nat) (flag : Bool), i + d = a.length → (flag = true → a.length = b.length ∧ a.take i = b.take i) → (flag = false → a ≠ b) → Ev (fun k => posthorselaw17_CodeApart.l2 k a b s t flag (i : Int)) true := by
  have fin : ∀ (k : Nat) (flag : Bool), (flag = true ↔ a = b) → (if ((s.toList == t.toList) == flag) = true then (some ((s.size : Int) == wrap64 (8 * (a.length : Int)))) else some false) = some true := by
    intro k flag hf
    have h1 : (s.toList == t.toList) = flag := by
      rw [dl, dl, hs, ht]
      cases flag with
      | true => rw [hf.1 rfl]; simp
      | false =>
        rw [beq_eq_false_iff_ne]
        intro e
        have := hf.2 (putB_inj ha hb e)
        cases this
    rw [h1]
    have h2 : s.size = 8 * a.length := by rw [← dlen, hs, putB_len]
    rw [w64 (by omega) (by omega), h2]
    simp
  intro d
  induction d with
  | zero =>
    intro i flag hi h1 h0
    refine Ev.from 1 fun k => ?_
    rw [posthorselaw17_CodeApart.l2]
    cases flag with
    | true =>
      rw [if_pos rfl, if_neg (by omega)]
      refine fin k true ⟨fun _ => ?_, fun _ => rfl⟩
      obtain ⟨hl, ht⟩ := h1 rfl
      rwa [List.take_of_length_le (by omega), List.take_of_length_le (by omega)] at ht
    | false =>
      rw [if_neg (by decide)]
      exact fin k false ⟨fun h => by (cases h), fun h => absurd h (h0 rfl)⟩
  | succ d ih =>
    intro i flag hi h1 h0
    cases flag with
    | false =>
      refine Ev.from 1 fun k => ?_
      rw [posthorselaw17_CodeApart.l2, if_neg (by decide)]
      exact fin k false ⟨fun h => by (cases h), fun h => absurd h (h0 rfl)⟩
    | true =>
      obtain ⟨hl, htk⟩ := h1 rfl
      have hia : i < a.length := by omega
      have hib : i < b.length := by omega
      have e1 : wrap64 ((i : Int) + 1) = ((i + 1 : Nat) : Int) := by rw [w64 (by omega) (by omega)]; omega
      refine Ev.step (fun k => by rw [posthorselaw17_CodeApart.l2, if_pos rfl, if_pos (by omega), if_pos (by omega), if_pos (by omega), rdIns a i hia, rdIns b i hib, e1]) ?_
      refine ih (i + 1) _ (by omega) ?_ ?_
      · intro h
        simp only [Bool.and_eq_true, beq_iff_eq] at h
        refine ⟨hl, ?_⟩
        rw [List.take_succ_eq_append_getElem hia, List.take_succ_eq_append_getElem hib, htk]
        have : a[i] = b[i] := by
          cases ha' : a[i]; cases hb' : b[i]
          rw [ha', hb'] at h
          simp only at h
          obtain ⟨g0, g1, g2, g3⟩ := h
          rw [g0, g1, g2, g3]
        rw [this]
      · intro h e
        subst e
        simp at h
theorem part3 (a b : List Ins) (hla : a.length ≤ 20) (hlb : b.length ≤ 20) (wa : ∀ x ∈ a, (Lit.int .i64 x.f3).wf = true) (wb : ∀ x ∈ b, (Lit.int .i64 x.f3).wf = true) : Ev (fun k => posthorselaw17_CodeApart.j3 k a b) true := by
  refine Ev.step (fun k => by rw [posthorselaw17_CodeApart.j3]) ?_
  refine Ev.bind (code_Put_ev a wa) (Ev.bind (code_Put_ev b wb) ?_)
  have out : ∀ s t, Ev (fun k => posthorselaw17_CodeApart.j4 k a b s t true) true := fun s t => Ev.from 1 fun k => by rw [posthorselaw17_CodeApart.j4, if_pos rfl]
  unfold putS
  rw [if_neg (show ¬ 128 < a.length by omega), if_neg (show ¬ 128 < b.length by omega)]
  by_cases ha : a.all rightB = true
  · by_cases hb : b.all rightB = true
    · rw [if_pos ha, if_pos hb]
      simp only [Option.isNone_none, if_true]
      have ha' : ∀ x ∈ a, rightB x = true := List.all_eq_true.1 ha
      have hb' : ∀ x ∈ b, rightB x = true := List.all_eq_true.1 hb
      refine Ev.step (fun k => by rw [posthorselaw17_CodeApart.j4, if_neg (by decide)]) ?_
      have := loop2 a b ⟨(putB a).toArray⟩ ⟨(putB b).toArray⟩ ha' hb' hla (by simp) (by simp) a.length 0 ((a.length : Int) == (b.length : Int)) (by omega) (fun h => by simp at h; exact ⟨by omega, rfl⟩) (fun h e => by subst e; simp at h)
      exact this
    · rw [if_pos ha, if_neg hb]
      simp only [Option.isNone_none, Option.isNone_some, if_true, Bool.false_eq_true, if_false]
      exact out _ _
  · rw [if_neg ha]
    simp only [Option.isNone_some, Bool.false_eq_true, if_false]
    exact out _ _
theorem loop1 (a : List Ins) (l : List Raw) (r : Bool) (hr : Ev (fun k => posthorselaw17_CodeApart.j3 k a (firsts l 20)) r) : ∀ (d i : Nat), i + d = min 20 l.length → Ev (fun k => posthorselaw17_CodeApart.l1 k l a (firsts l i) (i : Int)) r := by
  intro d
  induction d with
  | zero =>
    intro i hi
    have e : firsts l i = firsts l 20 := by
      unfold firsts
      congr 1
      rcases Nat.le_total 20 l.length with h | h
      · rw [show i = 20 by omega]
      · rw [List.take_of_length_le (by omega), List.take_of_length_le (by omega)]
    rw [e]
    refine Ev.step (fun k => ?_) hr
    rw [posthorselaw17_CodeApart.l1]
    by_cases h1 : (i : Int) < (l.length : Int)
    · rw [if_pos h1, if_neg (by omega)]
    · rw [if_neg h1]
  | succ d ih =>
    intro i hi
    have hil : i < l.length := by omega
    have e1 : wrap64 ((i : Int) + 1) = ((i + 1 : Nat) : Int) := by rw [w64 (by omega) (by omega)]; omega
    refine Ev.step (fun k => ?_) (ih (i + 1) (by omega))
    have hfl := firsts_len l i
    rw [posthorselaw17_CodeApart.l1, if_pos (by omega), if_pos (by omega), if_pos (by omega), if_pos (by omega), rdRaw l i hil, e1, firsts_snoc l i hil]; rfl
theorem loop0 (l m : List Raw) (r : Bool) (hr : Ev (fun k => posthorselaw17_CodeApart.j3 k (firsts l 20) (firsts m 20)) r) : ∀ (d i : Nat), i + d = min 20 l.length → Ev (fun k => posthorselaw17_CodeApart.l0 k l m (firsts l i) (i : Int)) r := by
  intro d
  induction d with
  | zero =>
    intro i hi
    have e : firsts l i = firsts l 20 := by
      unfold firsts
      congr 1
      rcases Nat.le_total 20 l.length with h | h
      · rw [show i = 20 by omega]
      · rw [List.take_of_length_le (by omega), List.take_of_length_le (by omega)]
    rw [e]
    refine Ev.step (f := fun k => posthorselaw17_CodeApart.j1 k m (firsts l 20) []) (fun k => ?_) (Ev.step (fun k => by rw [posthorselaw17_CodeApart.j1]; rfl) (loop1 (firsts l 20) m r hr (min 20 m.length) 0 (by omega)))
    rw [posthorselaw17_CodeApart.l0]
    by_cases h1 : (i : Int) < (l.length : Int)
    · rw [if_pos h1, if_neg (by omega)]
    · rw [if_neg h1]
  | succ d ih =>
    intro i hi
    have hil : i < l.length := by omega
    have e1 : wrap64 ((i : Int) + 1) = ((i + 1 : Nat) : Int) := by rw [w64 (by omega) (by omega)]; omega
    refine Ev.step (fun k => ?_) (ih (i + 1) (by omega))
    have hfl := firsts_len l i
    rw [posthorselaw17_CodeApart.l0, if_pos (by omega), if_pos (by omega), if_pos (by omega), if_pos (by omega), rdRaw l i hil, e1, firsts_snoc l i hil]; rfl
theorem CodeApart : CodeApart.Pure := by
  intro l m hl hm
  have wf : ∀ (l : List Raw), (∀ x ∈ l, (Lit.int .i64 x.f0).wf = true ∧ (Lit.int .i64 x.f1).wf = true ∧ (Lit.int .i64 x.f2).wf = true ∧ (Lit.int .i64 x.f3).wf = true) → ∀ x ∈ firsts l 20, (Lit.int .i64 x.f3).wf = true := by
    intro l h x hx
    simp only [firsts, List.mem_map] at hx
    obtain ⟨y, hy, rfl⟩ := hx
    exact (h y (List.mem_of_mem_take hy)).2.2.2
  have h3 := part3 (firsts l 20) (firsts m 20) (by rw [firsts_len]; omega) (by rw [firsts_len]; omega) (wf l hl.2.2) (wf m hm.2.2)
  refine Ev.rounds (g := fun k => posthorselaw17_CodeApart.f k l m) ?_
  unfold posthorselaw17_CodeApart.f
  refine Ev.bind speaks_ev ?_
  simp only [if_true]
  exact loop0 l m true h3 (min 20 l.length) 0 (by omega)

end Go.Proofs.Ytekjkbocblonmaa.Pure
