/- CodeGets of layer 17: the program of any bytes, or what is wrong with them; a program has these bytes alone; for every input, no condition. -/
import Derived.Test.YtekjkbocblonmaaDoorVCodeGetsx16
import Derived.OpenShut
import Derived.Lib.IndexEntry
namespace Go.Proofs.YtekjkbocblonmaaDoor.Pure
open Go Go.RowKit Go.Proofs.YtekjkbocblonmaaDoor.VCodeGets Go.Proofs.YtekjkbocblonmaaDoorW.PrintWords Go.Proofs.YtekjkbocblonmaaDoorW.PrintLast
set_option linter.unusedSimpArgs false
set_option linter.unusedVariables false

def CodeGets.Pure : Prop := ∀ (a0 : ByteArray), a0.size ≤ 140737488351232 → ∃ k, posthorselaw17_CodeGets.f k a0 = some true
/-! ### base -/
theorem dl (s : ByteArray) : s.toList = s.data.toList := Lib.toList_data s
theorem deq {a b : ByteArray} : a = b ↔ a.data.toList = b.data.toList := ⟨fun h => by rw [h], fun h => Go.WideShapes.bytes_inj h⟩
theorem dapp (a b : ByteArray) : (a ++ b).data.toList = a.data.toList ++ b.data.toList := by simp
theorem dlen (a : ByteArray) : a.data.toList.length = a.size := by rw [Array.length_toList]; rfl
theorem w64 {n : Int} (h0 : -9223372036854775808 ≤ n) (h1 : n ≤ 9223372036854775807) : wrap64 n = n := by unfold wrap64; omega
theorem i64b {n : Int} (h : (Lit.int .i64 n).wf = true) : -9223372036854775808 ≤ n ∧ n ≤ 9223372036854775807 := bounds_i64 h
theorem u8w (n : Int) : IntKind.u8.wrap n = n % 256 := IntKind.wrap_u8 n
theorem Ev.all {α : Type} {g : Nat → Option α} {r : α} (h : ∀ k, g k = some r) : Ev g r := ⟨0, fun k _ => h k⟩
theorem Ev.bindS {α β : Type} {g : Nat → Option α} {f : Nat → α → Option β} {a : α} {r : β} (h : Ev g a) (k : Ev (fun n => f n a) r) : Ev (fun n => (g n).bind (f n)) r := Ev.bind h k
theorem Ev.from {α : Type} {g : Nat → Option α} {r : α} (j : Nat) (h : ∀ k, g (k + j) = some r) : Ev g r := ⟨j, fun k hk => by have := h (k - j); rwa [Nat.sub_add_cancel hk] at this⟩
theorem Ev.to {α : Type} {g : Nat → Option α} {r : α} (h : Ev g r) : ∃ k, g k = some r := h.rounds
theorem Ev.at_ {α : Type} {g : Nat → Option α} {r : α} (hg : ∀ k, LeO (g k) (g (k + 1))) {j : Nat} (h : g j = some r) : Ev g r := Ev.of hg h

/-! ### le -/
/-- The bytes of a number, the lowest first. -/
def leB : Nat → Nat → List UInt8
  | 0, _ => []
  | s + 1, n => UInt8.ofNat (n % 256) :: leB s (n / 256)
theorem leB_len : ∀ s n, (leB s n).length = s
  | 0, _ => rfl
  | s + 1, n => by rw [leB, List.length_cons, leB_len s]
/-- .. and back. -/
def unB : List UInt8 → Nat
  | [] => 0
  | b :: r => b.toNat + 256 * unB r
theorem unB_leB : ∀ s n, unB (leB s n) = n % 256 ^ s
  | 0, n => by simp [leB, unB, Nat.mod_one]
  | s + 1, n => by
    rw [leB, unB, unB_leB s]
    have h1 : (UInt8.ofNat (n % 256)).toNat = n % 256 := by simp
    rw [h1, Nat.pow_succ', Nat.mod_mul]
theorem unB_lt : ∀ l : List UInt8, unB l < 256 ^ l.length
  | [] => by simp [unB]
  | b :: r => by
    have := unB_lt r
    have := b.toNat_lt
    rw [unB, List.length_cons, Nat.pow_succ]
    omega
theorem leB_unB : ∀ l : List UInt8, leB l.length (unB l) = l
  | [] => rfl
  | b :: r => by
    have hb := b.toNat_lt
    rw [unB, List.length_cons, leB]
    have h1 : (b.toNat + 256 * unB r) % 256 = b.toNat := by omega
    have h2 : (b.toNat + 256 * unB r) / 256 = unB r := by omega
    rw [h1, h2, leB_unB r]; simp
theorem leB_get : ∀ (s n j : Nat), j < s → (leB s n)[j]? = some (UInt8.ofNat (n / 256 ^ j % 256))
  | s + 1, n, 0, _ => by simp [leB]
  | s + 1, n, j + 1, h => by
    rw [leB, List.getElem?_cons_succ, leB_get s _ j (by omega), Nat.div_div_eq_div_mul, Nat.pow_succ']
/-- What Put answers. -/
def lePutS (n size : Int) : ByteArray := if 1 ≤ size ∧ size ≤ 7 ∧ 0 ≤ n ∧ n < 256 ^ size.toNat then ⟨(leB size.toNat n.toNat).toArray⟩ else ⟨#[]⟩
/-- The row that Put fills, behind i rounds. -/
def leRow (n : Int) (size i : Nat) : List Int := (List.range size).map fun j => if j < i then n / 256 ^ j % 256 else 0
theorem leRow_len (n : Int) (size i : Nat) : (leRow n size i).length = size := by simp [leRow]
theorem leRow_set (n : Int) (size i : Nat) (_ : i < size) : (leRow n size i).set i (n / 256 ^ i % 256) = leRow n size (i + 1) := by
  apply List.ext_getElem
  · simp [leRow]
  · intro j h1 h2
    simp only [leRow, List.length_map, List.length_range, List.length_set] at h1 h2
    rw [List.getElem_set]
    simp only [leRow, List.getElem_map, List.getElem_range]
    by_cases e : i = j
    · subst e; simp
    · rw [if_neg e]
      by_cases hj : j < i
      · rw [if_pos hj, if_pos (by omega)]
      · rw [if_neg hj, if_neg (by omega)]
theorem divcast (m s : Nat) : (m : Int) / 256 ^ s = ((m / 256 ^ s : Nat) : Int) := by
  rw [Int.natCast_ediv]; congr 1
theorem leRow_full (n : Nat) (size : Nat) : Go.strOfNums (leRow n size size) = ⟨(leB size n).toArray⟩ := by
  unfold Go.strOfNums
  congr 2
  apply List.ext_getElem?
  intro j
  by_cases hj : j < size
  · rw [leB_get _ _ _ hj, leRow, List.getElem?_map, List.getElem?_map, List.getElem?_range hj]
    simp only [Option.map_some, if_pos hj]
    have : ((n : Int) / 256 ^ j % 256).toNat = n / 256 ^ j % 256 := by
      have h1 : ((n : Int) / 256 ^ j % 256) = ((n / 256 ^ j % 256 : Nat) : Int) := by rw [divcast]; rfl
      rw [h1, Int.toNat_natCast]
    rw [this]
  · rw [List.getElem?_eq_none (by simp [leRow]; omega), List.getElem?_eq_none (by rw [leB_len]; omega)]
theorem shr_pow (n : Int) (i : Nat) (hi : i ≤ 7) : shr .i64 n (wrap64 (8 * (i : Int))) = n / 256 ^ i := by
  rw [w64 (by omega) (by omega)]
  unfold shr
  have h1 : min (8 * (i : Int)).toNat (IntKind.bits .i64) = 8 * i := by
    have h2 : (8 * (i : Int)).toNat = 8 * i := by omega
    rw [h2]; show min (8 * i) 64 = 8 * i; omega
  rw [h1]
  have h3 : (2 : Int) ^ (8 * i) = 256 ^ i := by
    have h := congrArg (fun x : Nat => (x : Int)) (Nat.pow_mul 2 8 i)
    simp only [Int.natCast_pow] at h
    exact h
  rw [h3]
theorem le_Put_loop (n : Int) (size : Nat) (hs : size ≤ 7) (h0 : 0 ≤ n) : ∀ (d i : Nat), i + d = size → Ev (fun k => le_Put.l0 k n (leRow n size i) (size : Int) (i : Int)) (Go.strOfNums (leRow n size size)) := by
  intro d
  induction d with
  | zero =>
    intro i hi
    obtain rfl : i = size := by omega
    refine Ev.from 1 fun k => ?_
    rw [le_Put.l0, if_neg (by omega)]
  | succ d ih =>
    intro i hi
    refine Ev.step (f := fun k => le_Put.l0 k n (leRow n size (i + 1)) (size : Int) ((i + 1 : Nat) : Int)) (fun k => ?_) (ih (i + 1) (by omega))
    have e1 : wrap64 (8 * (i : Int)) = 8 * (i : Int) := w64 (by omega) (by omega)
    have e2 : wrap64 ((i : Int) + 1) = ((i + 1 : Nat) : Int) := by rw [w64 (by omega) (by omega)]; omega
    rw [le_Put.l0, if_pos (by omega), if_pos (by rw [e1]; omega), if_pos (by omega), if_pos (by rw [leRow_len]; omega), e2, shr_pow n i (by omega), Int.toNat_natCast, leRow_set n size i (by omega)]
theorem le_Put_ev (n size : Int) (hn : (Lit.int .i64 n).wf = true) : Ev (fun k => le_Put.f k n size) (lePutS n size) := by
  have bn := i64b hn
  have bad : ∀ (n size : Int), ¬ (1 ≤ size ∧ size ≤ 7 ∧ 0 ≤ n ∧ n < 256 ^ size.toNat) → Ev (fun k => le_Put.j0 k n size true) (lePutS n size) := by
    intro n size h
    refine Ev.from 1 fun k => ?_
    rw [le_Put.j0, if_pos rfl, lePutS, if_neg h]
  unfold le_Put.f
  by_cases h1 : size < 1
  · simp only [if_pos h1]; exact bad n size (by omega)
  · by_cases h2 : size > 7
    · simp only [if_neg h1, if_pos h2]; exact bad n size (by omega)
    · by_cases h3 : n < 0
      · simp only [if_neg h1, if_neg h2, if_pos h3]; exact bad n size (by omega)
      · obtain ⟨s, rfl⟩ := Int.eq_ofNat_of_zero_le (show 0 ≤ size by omega)
        obtain ⟨m, rfl⟩ := Int.eq_ofNat_of_zero_le (show 0 ≤ n by omega)
        have e1 : wrap64 (8 * (s : Int)) = 8 * (s : Int) := w64 (by omega) (by omega)
        simp only [if_neg h1, if_neg h2, if_neg h3, if_pos (show 0 ≤ wrap64 (8 * (s : Int)) by rw [e1]; omega)]
        rw [shr_pow _ s (by omega)]
        by_cases h4 : m < 256 ^ s
        · have e3 : ((m : Int) / 256 ^ s != 0) = false := by
            rw [divcast, Nat.div_eq_of_lt h4]; rfl
          rw [e3]
          refine Ev.step (f := fun k => le_Put.l0 k (m : Int) (leRow m s 0) (s : Int) ((0 : Nat) : Int)) (fun k => ?_) ?_
          · rw [le_Put.j0, if_neg (by decide), if_pos (by omega), if_pos (by omega)]
            have e4 : (List.replicate (s : Int).toNat 0 : List Int) = leRow m s 0 := by
              rw [Int.toNat_natCast]
              apply List.ext_getElem
              · simp [leRow]
              · intro j h1 h2; simp [leRow]
            simp only [Option.bind_some, e4, leRow_len]
            rfl
          · have := le_Put_loop (m : Int) s (by omega) (by omega) s 0 (by omega)
            rw [leRow_full] at this
            have e5 : lePutS (m : Int) (s : Int) = ⟨(leB s m).toArray⟩ := by
              unfold lePutS
              rw [if_pos ⟨by omega, by omega, by omega, by rw [Int.toNat_natCast]; have h' := Int.ofNat_lt.2 h4; rw [Int.natCast_pow] at h'; exact h'⟩, Int.toNat_natCast, Int.toNat_natCast]
            rw [e5]; exact this
        · have e3 : ((m : Int) / 256 ^ s != 0) = true := by
            rw [divcast, bne_iff_ne]
            have : 0 < m / 256 ^ s := Nat.div_pos (by omega) (Nat.pow_pos (by decide))
            omega
          rw [e3]
          refine bad _ _ ?_
          rw [Int.toNat_natCast]
          intro ⟨_, _, _, h⟩
          have h' : ((m : Nat) : Int) < ((256 ^ s : Nat) : Int) := by rw [Int.natCast_pow]; exact h
          exact h4 (Int.ofNat_lt.1 h')

/-! ### code17 -/
abbrev Ins := S35
abbrev zIns := z35
theorem j3_t (k : Nat) (b : Bool) (op d s i : Int) : ∃ r, code_Right.j3 (k + 1) b op d s i = some r ∧ (r = true → b = true) := by
  rw [code_Right.j3]
  cases b
  · exact ⟨false, by simp, by simp⟩
  · exact ⟨_, by rw [if_pos rfl], fun _ => rfl⟩
theorem j2_t (k : Nat) (x : Int) (b : Bool) (op d s i : Int) : ∃ r, code_Right.j2 (k + 2) x b op d s i = some r ∧ (r = true → b = true ∨ (0 ≤ x ∧ x ≤ 20)) := by
  rw [code_Right.j2]
  cases b
  · rw [if_neg (by decide)]
    by_cases h0 : x = 0
    · obtain ⟨r, h, _⟩ := j3_t k (x == 0) op d s i
      rw [if_pos h0]; exact ⟨r, h, fun _ => .inr (by omega)⟩
    · by_cases h1 : x = 4
      · obtain ⟨r, h, _⟩ := j3_t k (x == 4) op d s i
        rw [if_neg h0, if_pos h1]; exact ⟨r, h, fun _ => .inr (by omega)⟩
      · by_cases h2 : x = 5
        · obtain ⟨r, h, _⟩ := j3_t k (x == 5) op d s i
          rw [if_neg h0, if_neg h1, if_pos h2]; exact ⟨r, h, fun _ => .inr (by omega)⟩
        · obtain ⟨r, h, h3⟩ := j3_t k (x == 6) op d s i
          rw [if_neg h0, if_neg h1, if_neg h2]; exact ⟨r, h, fun e => .inr (by have := h3 e; simp at this; omega)⟩
  · rw [if_pos rfl]
    by_cases h0 : d = 0
    · rw [if_pos h0]; exact ⟨_, rfl, fun _ => .inl rfl⟩
    · rw [if_neg h0]; exact ⟨_, rfl, fun _ => .inl rfl⟩
theorem j1_t (k : Nat) (x : Int) (b : Bool) (op d s i : Int) : ∃ r, code_Right.j1 (k + 3) x b op d s i = some r ∧ (r = true → b = true ∨ (0 ≤ x ∧ x ≤ 20)) := by
  rw [code_Right.j1]
  cases b
  · rw [if_neg (by decide)]
    have key : ∀ n : Int, 0 ≤ n → n ≤ 20 → ∃ r, code_Right.j2 (k + 2) x (x == n) op d s i = some r ∧ (r = true → false = true ∨ (0 ≤ x ∧ x ≤ 20)) := fun n h0 h20 => by
      obtain ⟨r, h, h3⟩ := j2_t k x (x == n) op d s i
      refine ⟨r, h, fun e => .inr ?_⟩
      rcases h3 e with h4 | h4
      · simp at h4; omega
      · exact h4
    by_cases h0 : x = 12
    · rw [if_pos h0]; exact key 12 (by omega) (by omega)
    · by_cases h1 : x = 17
      · rw [if_neg h0, if_pos h1]; exact key 17 (by omega) (by omega)
      · by_cases h2 : x = 18
        · rw [if_neg h0, if_neg h1, if_pos h2]; exact key 18 (by omega) (by omega)
        · by_cases h3 : x = 19
          · rw [if_neg h0, if_neg h1, if_neg h2, if_pos h3]; exact key 19 (by omega) (by omega)
          · rw [if_neg h0, if_neg h1, if_neg h2, if_neg h3]; exact key 20 (by omega) (by omega)
  · rw [if_pos rfl]; exact ⟨true, rfl, fun _ => .inl rfl⟩
theorem j0_t (k : Nat) (b : Bool) (op d s i : Int) : ∃ r, code_Right.j0 (k + 4) b op d s i = some r ∧ (r = true → b = false ∧ 0 ≤ op ∧ op ≤ 20) := by
  rw [code_Right.j0]
  cases b
  · rw [if_neg (by decide)]
    have key : ∀ n : Int, 0 ≤ n → n ≤ 20 → ∃ r, code_Right.j1 (k + 3) op (op == n) op d s i = some r ∧ (r = true → false = false ∧ 0 ≤ op ∧ op ≤ 20) := fun n h0 h20 => by
      obtain ⟨r, h, h3⟩ := j1_t k op (op == n) op d s i
      refine ⟨r, h, fun e => ⟨rfl, ?_⟩⟩
      rcases h3 e with h4 | h4
      · simp at h4; omega
      · exact h4
    have pick : ∀ (c : Prop) [Decidable c] (n : Int) (e : Option Bool), 0 ≤ n → n ≤ 20 → (∃ r, e = some r ∧ (r = true → false = false ∧ 0 ≤ op ∧ op ≤ 20)) → ∃ r, (if c then code_Right.j1 (k + 3) op (op == n) op d s i else e) = some r ∧ (r = true → false = false ∧ 0 ≤ op ∧ op ≤ 20) := fun c _ n e h0 h1 he => by
      by_cases hc : c
      · rw [if_pos hc]; exact key n h0 h1
      · rw [if_neg hc]; exact he
    refine pick _ 1 _ (by omega) (by omega) (pick _ 2 _ (by omega) (by omega) (pick _ 3 _ (by omega) (by omega) (pick _ 7 _ (by omega) (by omega) (pick _ 8 _ (by omega) (by omega) (pick _ 9 _ (by omega) (by omega) (pick _ 10 _ (by omega) (by omega) (pick _ 11 _ (by omega) (by omega) (pick _ 13 _ (by omega) (by omega) (pick _ 14 _ (by omega) (by omega) (pick _ 15 _ (by omega) (by omega) (key 16 (by omega) (by omega))))))))))))
  · rw [if_pos rfl]; exact ⟨false, rfl, by simp⟩
theorem imm_t (k : Nat) (op d s i : Int) : ∃ r, code_Ins_imm.f (k + 1) op d s i = some r := by
  have j0 : ∀ b, ∃ r, code_Ins_imm.j0 (k + 1) op b op d s i = some r := fun b => by
    rw [code_Ins_imm.j0]
    repeat' split
    all_goals exact ⟨_, rfl⟩
  unfold code_Ins_imm.f
  repeat' split
  all_goals first | exact ⟨_, rfl⟩ | exact j0 _
theorem right_t (x : Ins) : ∃ r, code_Right.f 9 x.f0 x.f1 x.f2 x.f3 = some r ∧ (r = true → 0 ≤ x.f0 ∧ x.f0 ≤ 20 ∧ 0 ≤ x.f1 ∧ x.f1 < 8 ∧ 0 ≤ x.f2 ∧ x.f2 < 8 ∧ -2147483648 ≤ x.f3 ∧ x.f3 < 2147483648) := by
  have reg : ∀ a, code_register.f a = some (decide (0 ≤ a ∧ a < 8)) := fun a => by
    unfold code_register.f
    by_cases h : a ≥ 0
    · rw [if_pos h]; congr 1; exact decide_eq_decide.2 (by omega)
    · rw [if_neg h]; congr 1; exact (decide_eq_false (by omega)).symm
  have bad : ∃ r, code_Right.j0 9 true x.f0 x.f1 x.f2 x.f3 = some r ∧ (r = true → 0 ≤ x.f0 ∧ x.f0 ≤ 20 ∧ 0 ≤ x.f1 ∧ x.f1 < 8 ∧ 0 ≤ x.f2 ∧ x.f2 < 8 ∧ -2147483648 ≤ x.f3 ∧ x.f3 < 2147483648) := by
    obtain ⟨r, h, h2⟩ := j0_t 5 true x.f0 x.f1 x.f2 x.f3
    exact ⟨r, h, fun e => by have := h2 e; simp at this⟩
  unfold code_Right.f
  rw [reg, reg]
  simp only [Option.bind_some, decide_eq_true_eq]
  by_cases h1 : 0 ≤ x.f1 ∧ x.f1 < 8
  · rw [if_pos h1]
    by_cases h2 : 0 ≤ x.f2 ∧ x.f2 < 8
    · rw [if_pos h2]
      by_cases h3 : x.f3 < -2147483648
      · rw [if_pos h3]; exact bad
      · rw [if_neg h3]
        by_cases h4 : x.f3 ≥ 2147483648
        · rw [if_pos h4]; exact bad
        · rw [if_neg h4]
          obtain ⟨b, hb⟩ := imm_t 8 x.f0 x.f1 x.f2 x.f3
          rw [hb]; simp only [Option.bind_some]
          obtain ⟨r, h, h5⟩ := j0_t 5 (!b) x.f0 x.f1 x.f2 x.f3
          exact ⟨r, h, fun e => by have := h5 e; omega⟩
    · rw [if_neg h2]; exact bad
  · rw [if_neg h1]; exact bad
/-- May there be such an instruction? -/
def rightB (x : Ins) : Bool := (code_Right.f 9 x.f0 x.f1 x.f2 x.f3).getD false
theorem right_ev (x : Ins) : Ev (fun k => code_Right.f k x.f0 x.f1 x.f2 x.f3) (rightB x) := by
  obtain ⟨r, h, _⟩ := right_t x
  have e : rightB x = r := by unfold rightB; rw [h]; rfl
  rw [e]
  exact Ev.of (code_Right.mono _ _ _ _) h
theorem right_range {x : Ins} (hx : rightB x = true) : 0 ≤ x.f0 ∧ x.f0 ≤ 20 ∧ 0 ≤ x.f1 ∧ x.f1 < 8 ∧ 0 ≤ x.f2 ∧ x.f2 < 8 ∧ -2147483648 ≤ x.f3 ∧ x.f3 < 2147483648 := by
  obtain ⟨r, h, h2⟩ := right_t x
  refine h2 ?_
  unfold rightB at hx; rw [h] at hx; exact hx
/-- An instruction's bytes. -/
def insB (x : Ins) : List UInt8 := [UInt8.ofNat (x.f0 % 256).toNat, UInt8.ofNat (x.f1 % 256).toNat, UInt8.ofNat (x.f2 % 256).toNat, 0] ++ leB 4 (x.f3 + 2147483648).toNat
theorem insB_len (x : Ins) : (insB x).length = 8 := by simp [insB, leB_len]
/-- A program's bytes. -/
def putB (l : List Ins) : List UInt8 := l.flatMap insB
theorem putB_len : ∀ l : List Ins, (putB l).length = 8 * l.length
  | [] => rfl
  | x :: r => by
    have h := putB_len r
    unfold putB at h ⊢
    rw [List.flatMap_cons, List.length_append, insB_len, h, List.length_cons]; omega
theorem ofNat_inj {a b : Nat} (ha : a < 256) (hb : b < 256) (h : UInt8.ofNat a = UInt8.ofNat b) : a = b := by
  have := congrArg UInt8.toNat h
  simp at this
  omega
theorem insB_inj {x y : Ins} (hx : rightB x = true) (hy : rightB y = true) (h : insB x = insB y) : x = y := by
  obtain ⟨x1, x2, x3, x4, x5, x6, x7, x8⟩ := right_range hx
  obtain ⟨y1, y2, y3, y4, y5, y6, y7, y8⟩ := right_range hy
  unfold insB at h
  have hh := List.append_inj h (by simp)
  simp only [List.cons.injEq, and_true] at hh
  obtain ⟨⟨h0, h1, h2⟩, h3⟩ := hh
  have e0 := ofNat_inj (by omega) (by omega) h0
  have e1 := ofNat_inj (by omega) (by omega) h1
  have e2 := ofNat_inj (by omega) (by omega) h2
  have e3 := congrArg unB h3
  rw [unB_leB, unB_leB, Nat.mod_eq_of_lt (by omega), Nat.mod_eq_of_lt (by omega)] at e3
  cases x; cases y
  simp only at *
  congr 1 <;> omega
theorem putB_inj : ∀ {a b : List Ins}, (∀ x ∈ a, rightB x = true) → (∀ x ∈ b, rightB x = true) → putB a = putB b → a = b
  | [], [], _, _, _ => rfl
  | [], y :: b, _, _, h => by
    have := congrArg List.length h
    rw [putB_len, putB_len] at this; simp at this
  | x :: a, [], _, _, h => by
    have := congrArg List.length h
    rw [putB_len, putB_len] at this; simp at this
  | x :: a, y :: b, ha, hb, h => by
    unfold putB at h
    rw [List.flatMap_cons, List.flatMap_cons] at h
    obtain ⟨h1, h2⟩ := List.append_inj h (by rw [insB_len, insB_len])
    rw [insB_inj (ha x (by simp)) (hb y (by simp)) h1, putB_inj (fun z hz => ha z (by simp [hz])) (fun z hz => hb z (by simp [hz])) h2]
theorem step_bytes (x : Ins) (hx : rightB x = true) (acc : ByteArray) (r : List UInt8) :
    (acc ++ (Go.strOfNums [IntKind.u8.wrap x.f0, IntKind.u8.wrap x.f1, IntKind.u8.wrap x.f2, 0] ++ lePutS (wrap64 (x.f3 + 2147483648)) 4)) ++ ⟨r.toArray⟩ = acc ++ ⟨(insB x ++ r).toArray⟩ := by
  obtain ⟨x1, x2, x3, x4, x5, x6, x7, x8⟩ := right_range hx
  rw [deq]
  rw [w64 (by omega) (by omega), lePutS, if_pos ⟨by omega, by omega, by omega, by
    show x.f3 + 2147483648 < 256 ^ 4
    omega⟩]
  simp [dapp, insB, Go.strOfNums, u8w]
theorem code_Put_loop (l : List Ins) (hl : l.length ≤ 128) (hw : ∀ x ∈ l, (Lit.int .i64 x.f3).wf = true) : ∀ (d i : Nat) (acc : ByteArray), i + d = l.length → acc.size ≤ 11 * i →
    Ev (fun k => code_Put.l0 k l acc (i : Int)) (if (l.drop i).all rightB then (acc ++ ⟨(putB (l.drop i)).toArray⟩, none) else (⟨#[]⟩, some 1)) := by
  intro d
  induction d with
  | zero =>
    intro i acc hi ha
    refine Ev.from 1 fun k => ?_
    rw [code_Put.l0, if_neg (by omega), List.drop_of_length_le (by omega)]
    simp only [List.all_nil, if_true, Option.some.injEq, Prod.mk.injEq, and_true]
    rw [deq]; simp [putB]
  | succ d ih =>
    intro i acc hi ha
    have hlt : i < l.length := by omega
    have hd : l.drop i = l[i] :: l.drop (i + 1) := List.drop_eq_getElem_cons hlt
    have hrd : rd_T35 l (i : Int) = l[i] := by
      unfold rd_T35
      rw [Int.toNat_natCast, List.getD_eq_getElem?_getD, List.getElem?_eq_getElem hlt]; rfl
    rw [hd]
    generalize hx : l[i] = x at *
    have hwx : (Lit.int .i64 x.f3).wf = true := by rw [← hx]; exact hw _ (List.getElem_mem hlt)
    refine Ev.step (f := fun k => (code_Right.f k x.f0 x.f1 x.f2 x.f3).bind fun t => if t = true then ((le_Put.f k (wrap64 (x.f3 + 2147483648)) 4).bind fun s => if acc.size + s.size ≤ 140737488000000 then code_Put.l0 k l (acc ++ (Go.strOfNums [IntKind.u8.wrap x.f0, IntKind.u8.wrap x.f1, IntKind.u8.wrap x.f2, 0] ++ s)) ((i : Int) + 1) else none) else some (⟨#[]⟩, some 1)) (fun k => by rw [code_Put.l0, if_pos (by omega), hrd]) ?_
    refine Ev.bind (right_ev x) ?_
    cases hr : rightB x with
    | false =>
      refine Ev.from 0 fun k => ?_
      simp [List.all_cons, hr]
    | true =>
      simp only [if_true]
      refine Ev.bind (le_Put_ev _ 4 (wrap64_wf _)) ?_
      have hsz : (lePutS (wrap64 (x.f3 + 2147483648)) 4).size ≤ 4 := by
        unfold lePutS
        split
        · rw [← dlen]; simp [leB_len]
        · rw [← dlen]; simp
      simp only [if_pos (show acc.size + (lePutS (wrap64 (x.f3 + 2147483648)) 4).size ≤ 140737488000000 by omega)]
      have e1 : ((i : Int) + 1) = ((i + 1 : Nat) : Int) := by omega
      rw [e1]
      have := ih (i + 1) (acc ++ (Go.strOfNums [IntKind.u8.wrap x.f0, IntKind.u8.wrap x.f1, IntKind.u8.wrap x.f2, 0] ++ lePutS (wrap64 (x.f3 + 2147483648)) 4)) (by omega) (by
        rw [ByteArray.size_append, ByteArray.size_append]
        have : (Go.strOfNums [IntKind.u8.wrap x.f0, IntKind.u8.wrap x.f1, IntKind.u8.wrap x.f2, 0]).size = 4 := by simp [Go.strOfNums, ByteArray.size]
        omega)
      rw [step_bytes x hr] at this
      simpa [List.all_cons, hr, putB] using this
/-- What Put answers. -/
def putS (l : List Ins) : ByteArray × Option Int := if 128 < l.length then (⟨#[]⟩, some 10) else if l.all rightB then (⟨(putB l).toArray⟩, none) else (⟨#[]⟩, some 1)
theorem code_Put_ev (l : List Ins) (hw : ∀ x ∈ l, (Lit.int .i64 x.f3).wf = true) : Ev (fun k => code_Put.f k l) (putS l) := by
  unfold code_Put.f putS
  by_cases h : 128 < l.length
  · simp only [if_pos (show (l.length : Int) > 128 by omega), if_pos h]; exact Ev.now _
  · simp only [if_neg (show ¬ (l.length : Int) > 128 by omega), if_neg h]
    have := code_Put_loop l (by omega) hw l.length 0 ⟨#[]⟩ (by omega) (by simp [ByteArray.size])
    have e : (⟨#[]⟩ : ByteArray) ++ ⟨(putB l).toArray⟩ = ⟨(putB l).toArray⟩ := by rw [deq]; simp
    rw [List.drop_zero, e] at this
    exact this

/-! ### ref17 -/
theorem ref_j0_bad (k : Nat) (a b c : ByteArray) (op d s i : Int) : posthorseref17_Right.j0 (k + 1) a b c true op d s i = some false := by
  rw [posthorseref17_Right.j0, if_pos rfl]
theorem refR_bad (op d s i : Int) (hr : ¬ (0 ≤ op ∧ op ≤ 20 ∧ 0 ≤ d ∧ d < 8 ∧ 0 ≤ s ∧ s < 8 ∧ -2147483648 ≤ i ∧ i < 2147483648)) : posthorseref17_Right.f 9 op d s i = some false := by
  unfold posthorseref17_Right.f
  by_cases h1 : op < 0
  · rw [if_pos h1]; exact ref_j0_bad 8 _ _ _ _ _ _ _
  rw [if_neg h1]
  by_cases h2 : op > 20
  · rw [if_pos h2]; exact ref_j0_bad 8 _ _ _ _ _ _ _
  rw [if_neg h2]
  by_cases h3 : d < 0
  · rw [if_pos h3]; exact ref_j0_bad 8 _ _ _ _ _ _ _
  rw [if_neg h3]
  by_cases h4 : d > 7
  · rw [if_pos h4]; exact ref_j0_bad 8 _ _ _ _ _ _ _
  rw [if_neg h4]
  by_cases h5 : s < 0
  · rw [if_pos h5]; exact ref_j0_bad 8 _ _ _ _ _ _ _
  rw [if_neg h5]
  by_cases h6 : s > 7
  · rw [if_pos h6]; exact ref_j0_bad 8 _ _ _ _ _ _ _
  rw [if_neg h6]
  by_cases h7 : i < -2147483648
  · rw [if_pos h7]; exact ref_j0_bad 8 _ _ _ _ _ _ _
  rw [if_neg h7, decide_eq_true (by omega)]
  exact ref_j0_bad 8 _ _ _ _ _ _ _
set_option maxRecDepth 100000 in
set_option maxHeartbeats 4000000 in
theorem refR_good (op d s i : Int) (h0 : 0 ≤ op) (h1 : op ≤ 20) (hd0 : 0 ≤ d) (hd1 : d < 8) (hs0 : 0 ≤ s) (hs1 : s < 8) (hi0 : -2147483648 ≤ i) (hi1 : i < 2147483648) : posthorseref17_Right.f 9 op d s i = code_Right.f 9 op d s i := by
  have reg : ∀ a, 0 ≤ a → a < 8 → code_register.f a = some true := fun a h0 h1 => by
    unfold code_register.f; rw [if_pos h0, decide_eq_true h1]
  unfold posthorseref17_Right.f code_Right.f
  rw [reg d hd0 hd1, reg s hs0 hs1]
  simp only [Option.bind_some, if_true]
  rw [if_neg (show ¬ op < 0 by omega), if_neg (show ¬ op > 20 by omega), if_neg (show ¬ d < 0 by omega), if_neg (show ¬ d > 7 by omega), if_neg (show ¬ s < 0 by omega), if_neg (show ¬ s > 7 by omega), if_neg (show ¬ i < -2147483648 by omega), if_neg (show ¬ i < -2147483648 by omega), if_neg (show ¬ i ≥ 2147483648 by omega), decide_eq_false (show ¬ i > 2147483647 by omega)]
  obtain ⟨D, hD⟩ : ∃ x, x = (⟨#[49, 49, 49, 49, 49, 49, 49, 49, 49, 49, 49, 49, 48, 49, 49, 49, 49, 48, 48, 48, 48, 49]⟩ : ByteArray) := ⟨_, rfl⟩
  rw [← hD]
  have zD : (D.size : Int) = 22 := by rw [hD]; rfl
  obtain ⟨S, hS⟩ : ∃ x, x = (⟨#[48, 49, 49, 49, 48, 48, 48, 49, 49, 49, 49, 49, 48, 49, 49, 49, 49, 48, 48, 48, 48, 49]⟩ : ByteArray) := ⟨_, rfl⟩
  rw [← hS]
  have zS : (S.size : Int) = 22 := by rw [hS]; rfl
  obtain ⟨M, hM⟩ : ∃ x, x = (⟨#[49, 48, 48, 48, 49, 49, 49, 49, 49, 49, 49, 49, 49, 49, 49, 49, 49, 49, 48, 49, 48, 48]⟩ : ByteArray) := ⟨_, rfl⟩
  rw [← hM]
  have zM : (M.size : Int) = 22 := by rw [hM]; rfl
  have fD0 : bt D 0 = 49 := by rw [hD]; decide +kernel
  have fD1 : bt D 1 = 49 := by rw [hD]; decide +kernel
  have fD2 : bt D 2 = 49 := by rw [hD]; decide +kernel
  have fD3 : bt D 3 = 49 := by rw [hD]; decide +kernel
  have fD4 : bt D 4 = 49 := by rw [hD]; decide +kernel
  have fD5 : bt D 5 = 49 := by rw [hD]; decide +kernel
  have fD6 : bt D 6 = 49 := by rw [hD]; decide +kernel
  have fD7 : bt D 7 = 49 := by rw [hD]; decide +kernel
  have fD8 : bt D 8 = 49 := by rw [hD]; decide +kernel
  have fD9 : bt D 9 = 49 := by rw [hD]; decide +kernel
  have fD10 : bt D 10 = 49 := by rw [hD]; decide +kernel
  have fD11 : bt D 11 = 49 := by rw [hD]; decide +kernel
  have fD12 : bt D 12 = 48 := by rw [hD]; decide +kernel
  have fD13 : bt D 13 = 49 := by rw [hD]; decide +kernel
  have fD14 : bt D 14 = 49 := by rw [hD]; decide +kernel
  have fD15 : bt D 15 = 49 := by rw [hD]; decide +kernel
  have fD16 : bt D 16 = 49 := by rw [hD]; decide +kernel
  have fD17 : bt D 17 = 48 := by rw [hD]; decide +kernel
  have fD18 : bt D 18 = 48 := by rw [hD]; decide +kernel
  have fD19 : bt D 19 = 48 := by rw [hD]; decide +kernel
  have fD20 : bt D 20 = 48 := by rw [hD]; decide +kernel
  have fS0 : bt S 0 = 48 := by rw [hS]; decide +kernel
  have fS1 : bt S 1 = 49 := by rw [hS]; decide +kernel
  have fS2 : bt S 2 = 49 := by rw [hS]; decide +kernel
  have fS3 : bt S 3 = 49 := by rw [hS]; decide +kernel
  have fS4 : bt S 4 = 48 := by rw [hS]; decide +kernel
  have fS5 : bt S 5 = 48 := by rw [hS]; decide +kernel
  have fS6 : bt S 6 = 48 := by rw [hS]; decide +kernel
  have fS7 : bt S 7 = 49 := by rw [hS]; decide +kernel
  have fS8 : bt S 8 = 49 := by rw [hS]; decide +kernel
  have fS9 : bt S 9 = 49 := by rw [hS]; decide +kernel
  have fS10 : bt S 10 = 49 := by rw [hS]; decide +kernel
  have fS11 : bt S 11 = 49 := by rw [hS]; decide +kernel
  have fS12 : bt S 12 = 48 := by rw [hS]; decide +kernel
  have fS13 : bt S 13 = 49 := by rw [hS]; decide +kernel
  have fS14 : bt S 14 = 49 := by rw [hS]; decide +kernel
  have fS15 : bt S 15 = 49 := by rw [hS]; decide +kernel
  have fS16 : bt S 16 = 49 := by rw [hS]; decide +kernel
  have fS17 : bt S 17 = 48 := by rw [hS]; decide +kernel
  have fS18 : bt S 18 = 48 := by rw [hS]; decide +kernel
  have fS19 : bt S 19 = 48 := by rw [hS]; decide +kernel
  have fS20 : bt S 20 = 48 := by rw [hS]; decide +kernel
  have fM0 : bt M 0 = 49 := by rw [hM]; decide +kernel
  have fM1 : bt M 1 = 48 := by rw [hM]; decide +kernel
  have fM2 : bt M 2 = 48 := by rw [hM]; decide +kernel
  have fM3 : bt M 3 = 48 := by rw [hM]; decide +kernel
  have fM4 : bt M 4 = 49 := by rw [hM]; decide +kernel
  have fM5 : bt M 5 = 49 := by rw [hM]; decide +kernel
  have fM6 : bt M 6 = 49 := by rw [hM]; decide +kernel
  have fM7 : bt M 7 = 49 := by rw [hM]; decide +kernel
  have fM8 : bt M 8 = 49 := by rw [hM]; decide +kernel
  have fM9 : bt M 9 = 49 := by rw [hM]; decide +kernel
  have fM10 : bt M 10 = 49 := by rw [hM]; decide +kernel
  have fM11 : bt M 11 = 49 := by rw [hM]; decide +kernel
  have fM12 : bt M 12 = 49 := by rw [hM]; decide +kernel
  have fM13 : bt M 13 = 49 := by rw [hM]; decide +kernel
  have fM14 : bt M 14 = 49 := by rw [hM]; decide +kernel
  have fM15 : bt M 15 = 49 := by rw [hM]; decide +kernel
  have fM16 : bt M 16 = 49 := by rw [hM]; decide +kernel
  have fM17 : bt M 17 = 49 := by rw [hM]; decide +kernel
  have fM18 : bt M 18 = 48 := by rw [hM]; decide +kernel
  have fM19 : bt M 19 = 49 := by rw [hM]; decide +kernel
  have fM20 : bt M 20 = 48 := by rw [hM]; decide +kernel
  clear hD hS hM
  have hop : op = 0 ∨ op = 1 ∨ op = 2 ∨ op = 3 ∨ op = 4 ∨ op = 5 ∨ op = 6 ∨ op = 7 ∨ op = 8 ∨ op = 9 ∨ op = 10 ∨ op = 11 ∨ op = 12 ∨ op = 13 ∨ op = 14 ∨ op = 15 ∨ op = 16 ∨ op = 17 ∨ op = 18 ∨ op = 19 ∨ op = 20 := by omega
  rcases hop with rfl | rfl | rfl | rfl | rfl | rfl | rfl | rfl | rfl | rfl | rfl | rfl | rfl | rfl | rfl | rfl | rfl | rfl | rfl | rfl | rfl
  all_goals
    simp [posthorseref17_Right.j0, posthorseref17_Right.j1, code_Right.j0, code_Right.j1, code_Right.j2, code_Right.j3, code_Ins_imm.f, code_Ins_imm.j0, zD, zS, zM, fD0, fD1, fD2, fD3, fD4, fD5, fD6, fD7, fD8, fD9, fD10, fD11, fD12, fD13, fD14, fD15, fD16, fD17, fD18, fD19, fD20, fS0, fS1, fS2, fS3, fS4, fS5, fS6, fS7, fS8, fS9, fS10, fS11, fS12, fS13, fS14, fS15, fS16, fS17, fS18, fS19, fS20, fM0, fM1, fM2, fM3, fM4, fM5, fM6, fM7, fM8, fM9, fM10, fM11, fM12, fM13, fM14, fM15, fM16, fM17, fM18, fM19, fM20]
    try (repeat' split) <;> first | rfl | (exfalso; omega) | (by_cases hc_ : i ≤ 64 <;> by_cases hd_ : i ≤ 3 <;> simp [hc_, hd_] <;> omega) | (simp_all <;> omega) | simp_all
theorem refR_eq (x : Ins) : posthorseref17_Right.f 9 x.f0 x.f1 x.f2 x.f3 = some (rightB x) := by
  by_cases hr : 0 ≤ x.f0 ∧ x.f0 ≤ 20 ∧ 0 ≤ x.f1 ∧ x.f1 < 8 ∧ 0 ≤ x.f2 ∧ x.f2 < 8 ∧ -2147483648 ≤ x.f3 ∧ x.f3 < 2147483648
  · obtain ⟨h0, h1, h2, h3, h4, h5, h6, h7⟩ := hr
    rw [refR_good _ _ _ _ h0 h1 h2 h3 h4 h5 h6 h7]
    obtain ⟨r, h, _⟩ := right_t x
    unfold rightB
    rw [h]; rfl
  · rw [refR_bad _ _ _ _ hr]
    cases hb : rightB x with
    | false => rfl
    | true => exact absurd (right_range hb) hr
theorem refR_ev (x : Ins) : Ev (fun k => posthorseref17_Right.f k x.f0 x.f1 x.f2 x.f3) (rightB x) := Ev.of (posthorseref17_Right.mono _ _ _ _) (refR_eq x)

/-! ### leget -/
theorem or_i64 (a b : Nat) (ha : a < 9223372036854775808) (hb : b < 9223372036854775808) : Go.bits .or .i64 (a : Int) (b : Int) = ((a ||| b : Nat) : Int) := by
  have hx : a ||| b < 2 ^ 63 := Nat.or_lt_two_pow (by omega) (by omega)
  have h1 : (BitVec.ofInt 64 (a : Int)).toNat = a := by
    rw [BitVec.ofInt_natCast, BitVec.toNat_ofNat]; exact Nat.mod_eq_of_lt (by omega)
  have h2 : (BitVec.ofInt 64 (b : Int)).toNat = b := by
    rw [BitVec.ofInt_natCast, BitVec.toNat_ofNat]; exact Nat.mod_eq_of_lt (by omega)
  show IntKind.i64.wrap ((BitVec.ofInt 64 (a : Int) ||| BitVec.ofInt 64 (b : Int)).toNat : Int) = _
  rw [BitVec.toNat_or, h1, h2]
  rw [IntKind.wrap_i64]
  omega
theorem or_low (n b : Nat) (hn : n < 281474976710656) (hb : b < 256) : Go.bits .or .i64 (wrap64 ((n : Int) * 256)) (wrap64 (b : Int)) = ((b + 256 * n : Nat) : Int) := by
  have e1 : wrap64 ((n : Int) * 256) = ((n * 256 : Nat) : Int) := by rw [w64 (by omega) (by omega)]; omega
  rw [e1, w64 (by omega) (by omega), or_i64 _ _ (by omega) (by omega)]
  have h := Nat.shiftLeft_add_eq_or_of_lt (show b < 2 ^ 8 by omega) n
  rw [Nat.shiftLeft_eq] at h
  have h' : n * 256 ||| b = n * 256 + b := h.symm
  rw [h']; omega
theorem bt_get (s : ByteArray) (i : Nat) : bt s (i : Int) = ((s.data.toList.getD i 0).toNat : Int) := by
  unfold bt
  rw [Int.toNat_natCast]
  split
  · rename_i h
    have h' : i < s.data.toList.length := by rw [dlen]; exact h
    rw [List.getD_eq_getElem?_getD, List.getElem?_eq_getElem h', Option.getD_some, Array.getElem_toList]
    rfl
  · rename_i h
    have h' : s.data.toList.length ≤ i := by rw [dlen]; omega
    rw [List.getD_eq_getElem?_getD, List.getElem?_eq_none h']
    rfl
/-- What Get answers. -/
def leGetS (s : ByteArray) : Int := if s.size ≤ 7 then (unB s.data.toList : Int) else 0
theorem le_Get_loop (s : ByteArray) (hs : s.size ≤ 7) : ∀ (i : Nat), i ≤ s.size → Ev (fun k => le_Get.l0 k s (unB (s.data.toList.drop i) : Int) ((i : Int) - 1)) (unB s.data.toList : Int) := by
  intro i
  induction i with
  | zero =>
    intro _
    refine Ev.from 1 fun k => ?_
    rw [le_Get.l0, if_neg (by omega), List.drop_zero]
  | succ i ih =>
    intro hi
    have hil : i < s.data.toList.length := by rw [dlen]; omega
    have e1 : ((i + 1 : Nat) : Int) - 1 = (i : Int) := by omega
    have e2 : wrap64 ((i : Int) - 1) = (i : Int) - 1 := w64 (by omega) (by omega)
    have hb := (s.data.toList[i]).toNat_lt
    have hlt := unB_lt (s.data.toList.drop (i + 1))
    rw [List.length_drop, dlen] at hlt
    have hp : 256 ^ (s.size - (i + 1)) ≤ 256 ^ 6 := Nat.pow_le_pow_right (by decide) (by omega)
    have e3 : bt s (i : Int) = ((s.data.toList[i]).toNat : Int) := by
      rw [bt_get, List.getD_eq_getElem?_getD, List.getElem?_eq_getElem hil]; rfl
    have e4 : unB (s.data.toList.drop i) = (s.data.toList[i]).toNat + 256 * unB (s.data.toList.drop (i + 1)) := by
      rw [List.drop_eq_getElem_cons hil, unB]
    refine Ev.step (fun k => ?_) (ih (by omega))
    rw [e1, le_Get.l0, if_pos (by omega), if_pos (by omega), if_pos (by omega), e2, e3, e4]
    rw [or_low _ _ (by omega) (by omega)]
theorem le_Get_ev (s : ByteArray) : Ev (fun k => le_Get.f k s) (leGetS s) := by
  unfold le_Get.f leGetS
  by_cases h : s.size ≤ 7
  · simp only [if_neg (show ¬ (s.size : Int) > 7 by omega), if_pos h]
    rw [w64 (by omega) (by omega)]
    have := le_Get_loop s h s.size (Nat.le_refl _)
    rw [List.drop_of_length_le (by rw [dlen]; omega)] at this
    exact this
  · simp only [if_pos (show (s.size : Int) > 7 by omega), if_neg h]; exact Ev.now _

/-! ### codeget -/
theorem rdIns (l : List Ins) (i : Nat) (h : i < l.length) : rd_T35 l (i : Int) = l[i] := by
  unfold rd_T35
  rw [Int.toNat_natCast, List.getD_eq_getElem?_getD, List.getElem?_eq_getElem h]; rfl
/-- The bytes of the instruction at a place. -/
def blk (l : List UInt8) (i : Nat) : List UInt8 := (l.drop (8 * i)).take 8
/-- An instruction of eight bytes. -/
def decI (b : List UInt8) : Ins := ⟨((b.getD 0 0).toNat : Int), ((b.getD 1 0).toNat : Int), ((b.getD 2 0).toNat : Int), (unB (b.drop 4) : Int) - 2147483648⟩
theorem blk_at (l : List UInt8) (i j : Nat) (hj : j < 8) : (blk l i).getD j 0 = l.getD (8 * i + j) 0 := by
  unfold blk
  rw [List.getD_eq_getElem?_getD, List.getD_eq_getElem?_getD, List.getElem?_take_of_lt hj, List.getElem?_drop]
theorem blk_put : ∀ (l : List Ins) (i : Nat) (h : i < l.length), blk (putB l) i = insB l[i]
  | x :: r, 0, _ => by
    unfold blk putB
    rw [List.flatMap_cons, Nat.mul_zero, List.drop_zero, List.take_append_of_le_length (by rw [insB_len]; omega), List.take_of_length_le (by rw [insB_len]; omega)]; rfl
  | x :: r, i + 1, h => by
    have := blk_put r i (by simpa using h)
    unfold blk putB at *
    rw [List.flatMap_cons, show 8 * (i + 1) = (insB x).length + 8 * i by rw [insB_len]; omega, List.drop_append, List.drop_of_length_le (by omega), List.nil_append, Nat.add_sub_cancel_left, this]; rfl
theorem byteInt {n : Int} (h0 : 0 ≤ n) (h1 : n < 256) : ((UInt8.ofNat (n % 256).toNat).toNat : Int) = n := by
  have : (UInt8.ofNat (n % 256).toNat).toNat = (n % 256).toNat % 256 := by simp
  rw [this]; omega
theorem decI_ins (x : Ins) (hx : rightB x = true) : decI (insB x) = x := by
  obtain ⟨x1, x2, x3, x4, x5, x6, x7, x8⟩ := right_range hx
  unfold decI insB
  simp only [List.cons_append, List.nil_append, List.getD_cons_zero, List.getD_cons_succ, List.drop_succ_cons, List.drop_zero]
  rw [unB_leB, Nat.mod_eq_of_lt (by omega), byteInt (by omega) (by omega), byteInt (by omega) (by omega), byteInt (by omega) (by omega)]
  cases x
  simp only at *
  congr 1
  omega
/-- All instructions of bytes. -/
def decs (l : List UInt8) (n : Nat) : List Ins := (List.range n).map fun i => decI (blk l i)
theorem decs_len (l : List UInt8) (n : Nat) : (decs l n).length = n := by simp [decs]
theorem decs_put (l : List Ins) (h : ∀ x ∈ l, rightB x = true) : decs (putB l) l.length = l := by
  apply List.ext_getElem
  · rw [decs_len]
  · intro i h1 h2
    simp only [decs, List.getElem_map, List.getElem_range]
    rw [blk_put l i h2, decI_ins _ (h _ (List.getElem_mem h2))]
/-- What Get answers behind the first pass. -/
def getT (out : List Ins) : List Ins × Option Int := if 128 < out.length then ([], some 10) else if out.all rightB then (out, none) else ([], some 11)
/-- What Get answers. -/
def getS (l : List UInt8) : List Ins × Option Int := if l.length % 8 = 0 then (if (List.range (l.length / 8)).all (fun i => l.getD (8 * i + 3) 0 == 0) then getT (decs l (l.length / 8)) else ([], some 4)) else ([], some 4)
theorem code_Get_loop1 (x : List Ins) (hx : x.length ≤ 128) : ∀ (d i : Nat), i + d = x.length → Ev (fun k => code_Get.l1 k x x (x.length : Int) (i : Int)) (if (x.drop i).all rightB then (x, none) else ([], some 11)) := by
  intro d
  induction d with
  | zero =>
    intro i hi
    refine Ev.from 1 fun k => ?_
    rw [code_Get.l1, if_neg (by omega), List.drop_of_length_le (by omega)]; rfl
  | succ d ih =>
    intro i hi
    have hlt : i < x.length := by omega
    have e1 : wrap64 ((i : Int) + 1) = ((i + 1 : Nat) : Int) := by rw [w64 (by omega) (by omega)]; omega
    have hd : x.drop i = x[i] :: x.drop (i + 1) := List.drop_eq_getElem_cons hlt
    refine Ev.step (f := fun k => (code_Right.f k (x[i]).f0 (x[i]).f1 (x[i]).f2 (x[i]).f3).bind fun t => if t = true then code_Get.l1 k x x (x.length : Int) ((i + 1 : Nat) : Int) else some ([], some 11)) (fun k => by rw [code_Get.l1, if_pos (by omega), if_pos (by omega), if_pos (by omega), rdIns x i hlt, e1]) ?_
    refine Ev.bind (right_ev x[i]) ?_
    rw [hd, List.all_cons]
    cases hr : rightB x[i] with
    | false =>
      simp only [Bool.false_and, Bool.false_eq_true, if_false]
      exact Ev.now _
    | true =>
      simp only [Bool.true_and, if_true]
      exact ih (i + 1) (by omega)
theorem code_Get_tail (x : List Ins) (s : ByteArray) : Ev (fun k => if (x.length : Int) > 128 then some (([] : List Ins), some 10) else code_Get.l1 k x x (x.length : Int) 0) (getT x) := by
  unfold getT
  by_cases h : 128 < x.length
  · simp only [if_pos (show (x.length : Int) > 128 by omega), if_pos h]; exact Ev.now _
  · simp only [if_neg (show ¬ (x.length : Int) > 128 by omega), if_neg h]
    exact code_Get_loop1 x (by omega) x.length 0 (by omega)
theorem code_Get_loop0 (s : ByteArray) (m : Nat) (hm : s.size = 8 * m) (hs : m < 4398046511104) : ∀ (d i : Nat), i + d = m → Ev (fun k => code_Get.l0 k s (decs s.data.toList i) ((8 * i : Nat) : Int)) (if (List.range d).all (fun j => s.data.toList.getD (8 * (i + j) + 3) 0 == 0) then getT (decs s.data.toList m) else ([], some 4)) := by
  intro d
  induction d with
  | zero =>
    intro i hi
    obtain rfl : i = m := by omega
    refine Ev.step (fun k => ?_) (code_Get_tail (decs s.data.toList i) s)
    rw [code_Get.l0, if_neg (by omega)]
  | succ d ih =>
    intro i hi
    have a1 : wrap64 (((8 * i : Nat) : Int) + 1) = ((8 * i + 1 : Nat) : Int) := by rw [w64 (by omega) (by omega)]; omega
    have a2 : wrap64 (((8 * i : Nat) : Int) + 2) = ((8 * i + 2 : Nat) : Int) := by rw [w64 (by omega) (by omega)]; omega
    have a3 : wrap64 (((8 * i : Nat) : Int) + 3) = ((8 * i + 3 : Nat) : Int) := by rw [w64 (by omega) (by omega)]; omega
    have a4 : wrap64 (((8 * i : Nat) : Int) + 4) = ((8 * i + 4 : Nat) : Int) := by rw [w64 (by omega) (by omega)]; omega
    have a8 : wrap64 (((8 * i : Nat) : Int) + 8) = ((8 * (i + 1) : Nat) : Int) := by rw [w64 (by omega) (by omega)]; omega
    have hz : (List.range (d + 1)).all (fun j => s.data.toList.getD (8 * (i + j) + 3) 0 == 0) = ((s.data.toList.getD (8 * i + 3) 0 == 0) && (List.range d).all (fun j => s.data.toList.getD (8 * (i + 1 + j) + 3) 0 == 0)) := by
      rw [List.range_succ_eq_map, List.all_cons, List.all_map]
      congr 1
      congr 1
      funext j
      simp only [Function.comp]
      rw [show i + Nat.succ j = i + 1 + j by omega]
    rw [hz]
    have b3 : ∀ n : Nat, bt s (n : Int) = ((s.data.toList.getD n 0).toNat : Int) := bt_get s
    by_cases h3 : s.data.toList.getD (8 * i + 3) 0 = 0
    · have eb : bt s ((8 * i + 3 : Nat) : Int) = 0 := by rw [b3, h3]; rfl
      have hx : ((s.extract (8 * i + 4) (8 * (i + 1))).data.toList) = (blk s.data.toList i).drop 4 := by
        unfold blk
        rw [ByteArray.data_extract, Array.toList_extract, List.extract_eq_drop_take', List.drop_take, List.drop_take, List.drop_drop, show 8 * (i + 1) - (8 * i + 4) = 8 - 4 by omega]
      have hsz : (s.extract (8 * i + 4) (8 * (i + 1))).size ≤ 7 := by
        rw [ByteArray.size_extract]; omega
      have hg : leGetS (s.extract (8 * i + 4) (8 * (i + 1))) = (unB ((blk s.data.toList i).drop 4) : Int) := by
        unfold leGetS; rw [if_pos hsz, hx]
      have hu : unB ((blk s.data.toList i).drop 4) < 4294967296 := by
        have := unB_lt ((blk s.data.toList i).drop 4)
        have hl : ((blk s.data.toList i).drop 4).length ≤ 4 := by
          unfold blk; rw [List.length_drop, List.length_take]; omega
        have : 256 ^ ((blk s.data.toList i).drop 4).length ≤ 256 ^ 4 := Nat.pow_le_pow_right (by decide) hl
        omega
      refine Ev.step (f := fun k => (le_Get.f k (s.extract (8 * i + 4) (8 * (i + 1)))).bind fun t => code_Get.l0 k s (decs s.data.toList i ++ [(⟨bt s ((8 * i : Nat) : Int), bt s ((8 * i + 1 : Nat) : Int), bt s ((8 * i + 2 : Nat) : Int), wrap64 (t - 2147483648)⟩ : Ins)]) ((8 * (i + 1) : Nat) : Int)) (fun k => ?_) ?_
      · rw [code_Get.l0]
        simp only [a1, a2, a3, a4, a8, eb, decs_len, Int.toNat_natCast]
        rw [if_pos (by omega), if_pos (by omega), if_pos (by omega), if_pos trivial, if_pos (by omega), if_pos (by omega), if_pos (by omega), if_pos (by omega), if_pos (by omega), if_pos (by omega), if_pos (by omega), if_pos (by omega)]
        have wb : ∀ n : Nat, wrap64 (bt s (n : Int)) = bt s (n : Int) := fun n => by
          have := bt_range s (n : Int)
          rw [w64 (by omega) (by omega)]
        simp only [wb, if_pos (show i < 4398046511104 by omega)]
      · refine Ev.bind (le_Get_ev _) ?_
        rw [hg, w64 (by omega) (by omega), h3]
        have := ih (i + 1) (by omega)
        have hdec : decs s.data.toList (i + 1) = decs s.data.toList i ++ [(⟨bt s ((8 * i : Nat) : Int), bt s ((8 * i + 1 : Nat) : Int), bt s ((8 * i + 2 : Nat) : Int), (unB ((blk s.data.toList i).drop 4) : Int) - 2147483648⟩ : Ins)] := by
          unfold decs
          rw [List.range_succ, List.map_append]
          simp only [List.map_cons, List.map_nil]
          unfold decI
          rw [blk_at _ _ 0 (by omega), blk_at _ _ 1 (by omega), blk_at _ _ 2 (by omega), b3, b3, b3]; rfl
        rw [hdec] at this
        simpa using this
    · have eb : ¬ bt s ((8 * i + 3 : Nat) : Int) = 0 := by
        rw [b3]
        intro h
        refine h3 (UInt8.toNat_inj.1 ?_)
        have : (s.data.toList.getD (8 * i + 3) 0).toNat = 0 := by omega
        rw [this]; rfl
      have e : (s.data.toList.getD (8 * i + 3) 0 == 0) = false := beq_eq_false_iff_ne.2 h3
      rw [e]
      refine Ev.from 1 fun k => ?_
      rw [code_Get.l0, a3, if_pos (by omega), if_pos (by omega), if_pos (by omega), if_neg eb]
      simp
theorem code_Get_ev (s : ByteArray) (hs : s.size < 35184372088832) : Ev (fun k => code_Get.f k s) (getS s.data.toList) := by
  unfold code_Get.f getS
  rw [dlen]
  by_cases h : s.size % 8 = 0
  · simp only [if_pos (show (s.size : Int) % 8 = 0 by omega), if_pos h]
    have := code_Get_loop0 s (s.size / 8) (by omega) (by omega) (s.size / 8) 0 (by omega)
    rw [show decs s.data.toList 0 = [] from rfl] at this
    simpa using this
  · simp only [if_neg (show ¬ (s.size : Int) % 8 = 0 by omega), if_neg h]; exact Ev.now _
theorem getS_put (l : List Ins) (hl : l.length ≤ 128) (h : ∀ x ∈ l, rightB x = true) : getS (putB l) = (l, none) := by
  have hall : (List.range l.length).all (fun i => (putB l).getD (8 * i + 3) 0 == 0) = true := by
    rw [List.all_eq_true]
    intro i hi
    have hi : i < l.length := by simpa using hi
    rw [← blk_at _ _ 3 (by omega), blk_put l i hi]
    simp [insB]
  unfold getS
  rw [putB_len, if_pos (by omega), show 8 * l.length / 8 = l.length by omega, if_pos hall, decs_put l h, getT, if_neg (by omega), if_pos (List.all_eq_true.2 h)]

/-! ### ref01 -/
theorem ref01_Get_loop (s : ByteArray) (hs : s.size ≤ 7) : ∀ (i : Nat), i ≤ s.size → Ev (fun k => posthorseref01_Get.l0 k s (unB (s.data.toList.drop i) : Int) ((i : Int) - 1)) (unB s.data.toList : Int) := by
  intro i
  induction i with
  | zero =>
    intro _
    refine Ev.from 1 fun k => ?_
    rw [posthorseref01_Get.l0, if_neg (by omega), List.drop_zero]
  | succ i ih =>
    intro hi
    have hil : i < s.data.toList.length := by rw [dlen]; omega
    have e1 : ((i + 1 : Nat) : Int) - 1 = (i : Int) := by omega
    have e2 : wrap64 ((i : Int) - 1) = (i : Int) - 1 := w64 (by omega) (by omega)
    have hb := (s.data.toList[i]).toNat_lt
    have hlt := unB_lt (s.data.toList.drop (i + 1))
    rw [List.length_drop, dlen] at hlt
    have hp : 256 ^ (s.size - (i + 1)) ≤ 256 ^ 6 := Nat.pow_le_pow_right (by decide) (by omega)
    have e3 : bt s (i : Int) = ((s.data.toList[i]).toNat : Int) := by
      rw [bt_get, List.getD_eq_getElem?_getD, List.getElem?_eq_getElem hil]; rfl
    have e4 : unB (s.data.toList.drop i) = (s.data.toList[i]).toNat + 256 * unB (s.data.toList.drop (i + 1)) := by
      rw [List.drop_eq_getElem_cons hil, unB]
    refine Ev.step (fun k => ?_) (ih (by omega))
    rw [e1, posthorseref01_Get.l0, if_pos (by omega), if_pos (by omega), if_pos (by omega), e2, e3, e4]
    rw [w64 (n := 256 * _) (by omega) (by omega), w64 (n := ((s.data.toList[i]).toNat : Int)) (by omega) (by omega), w64 (by omega) (by omega)]
    congr 1
    omega
theorem ref01_Get_ev (s : ByteArray) : Ev (fun k => posthorseref01_Get.f k s) (leGetS s) := by
  unfold posthorseref01_Get.f leGetS
  by_cases h : s.size ≤ 7
  · simp only [if_neg (show ¬ (s.size : Int) > 7 by omega), if_pos h]
    rw [w64 (by omega) (by omega)]
    have := ref01_Get_loop s h s.size (Nat.le_refl _)
    rw [List.drop_of_length_le (by rw [dlen]; omega)] at this
    exact this
  · simp only [if_pos (show (s.size : Int) > 7 by omega), if_neg h]; exact Ev.now _

/-! ### ref17get -/
abbrev RIns := S37
def toR (x : Ins) : RIns := ⟨x.f0, x.f1, x.f2, x.f3⟩
theorem rdR (l : List RIns) (i : Nat) (h : i < l.length) : rd_T37 l (i : Int) = l[i] := by
  unfold rd_T37
  rw [Int.toNat_natCast, List.getD_eq_getElem?_getD, List.getElem?_eq_getElem h]; rfl
/-- What the document's Get answers behind the pass. -/
def refT (out : List Ins) : List RIns × Int := ((getT out).1.map toR, (getT out).2.getD 0)
theorem ref17_Get_tail (x : List Ins) : (if ((x.map toR).length : Int) > 128 then some (([] : List RIns), (10 : Int)) else (if x.all rightB = true then some (x.map toR, 0) else some ([], 11))) = some (refT x) := by
  unfold refT getT
  rw [List.length_map]
  by_cases h : 128 < x.length
  · rw [if_pos (by omega), if_pos h]; rfl
  · rw [if_neg (by omega), if_neg h]
    by_cases h2 : x.all rightB = true
    · rw [if_pos h2, if_pos h2]; rfl
    · rw [if_neg h2, if_neg h2]; rfl
theorem get4 (s : ByteArray) (i : Nat) : leGetS (s.extract (8 * i + 4) (8 * (i + 1))) = (unB ((blk s.data.toList i).drop 4) : Int) ∧ unB ((blk s.data.toList i).drop 4) < 4294967296 := by
  have hx : ((s.extract (8 * i + 4) (8 * (i + 1))).data.toList) = (blk s.data.toList i).drop 4 := by
    unfold blk
    rw [ByteArray.data_extract, Array.toList_extract, List.extract_eq_drop_take', List.drop_take, List.drop_take, List.drop_drop, show 8 * (i + 1) - (8 * i + 4) = 8 - 4 by omega]
  have hsz : (s.extract (8 * i + 4) (8 * (i + 1))).size ≤ 7 := by
    rw [ByteArray.size_extract]; omega
  have hg : leGetS (s.extract (8 * i + 4) (8 * (i + 1))) = (unB ((blk s.data.toList i).drop 4) : Int) := by
    unfold leGetS; rw [if_pos hsz, hx]
  have hu : unB ((blk s.data.toList i).drop 4) < 4294967296 := by
    have := unB_lt ((blk s.data.toList i).drop 4)
    have hl : ((blk s.data.toList i).drop 4).length ≤ 4 := by
      unfold blk; rw [List.length_drop, List.length_take]; omega
    have : 256 ^ ((blk s.data.toList i).drop 4).length ≤ 256 ^ 4 := Nat.pow_le_pow_right (by decide) hl
    omega
  exact ⟨hg, hu⟩
theorem get_conds (i m n : Nat) (hn : n = 8 * m) (hi : i < m) : (i : Int) < (m : Int) ∧ 0 ≤ ((8 * i + 3 : Nat) : Int) ∧ ((8 * i + 3 : Nat) : Int) < (n : Int) ∧ 0 ≤ ((8 * i : Nat) : Int) ∧ ((8 * i : Nat) : Int) < (n : Int) ∧ 0 ≤ ((8 * i + 1 : Nat) : Int) ∧ ((8 * i + 1 : Nat) : Int) < (n : Int) ∧ 0 ≤ ((8 * i + 2 : Nat) : Int) ∧ ((8 * i + 2 : Nat) : Int) < (n : Int) ∧ 0 ≤ ((8 * i + 4 : Nat) : Int) ∧ ((8 * i + 4 : Nat) : Int) ≤ ((8 * (i + 1) : Nat) : Int) ∧ ((8 * (i + 1) : Nat) : Int) ≤ (n : Int) := by omega
set_option maxHeartbeats 4000000 in
theorem ref17_Get_loop (s : ByteArray) (m : Nat) (hm : s.size = 8 * m) (hs : m < 4398046511104) : ∀ (d i : Nat), i + d = m → Ev (fun k => posthorseref17_Get.l0 k s ((decs s.data.toList i).map toR) ((decs s.data.toList i).all rightB) (i : Int)) (if (List.range d).all (fun j => s.data.toList.getD (8 * (i + j) + 3) 0 == 0) then refT (decs s.data.toList m) else ([], 4)) := by
  have em : wrap64 ((s.size : Int) / 8) = (m : Int) := by rw [w64 (by omega) (by omega)]; omega
  intro d
  induction d with
  | zero =>
    intro i hi
    obtain rfl : i = m := by omega
    refine Ev.from 1 fun k => ?_
    rw [posthorseref17_Get.l0, em, if_neg (by omega), ref17_Get_tail]; rfl
  | succ d ih =>
    intro i hi
    obtain ⟨q1, q2, q3, q4, q5, q6, q7, q8, q9, q10, q11, q12⟩ := get_conds i m s.size hm (by omega)
    have q0 : i < 4398046511104 := by omega
    have qi : i + 1 + d = m := by omega
    have a0 : wrap64 (8 * (i : Int)) = ((8 * i : Nat) : Int) := by rw [w64 (by omega) (by omega)]; omega
    have a1 : wrap64 (((8 * i : Nat) : Int) + 1) = ((8 * i + 1 : Nat) : Int) := by rw [w64 (by omega) (by omega)]; omega
    have a2 : wrap64 (((8 * i : Nat) : Int) + 2) = ((8 * i + 2 : Nat) : Int) := by rw [w64 (by omega) (by omega)]; omega
    have a3 : wrap64 (((8 * i : Nat) : Int) + 3) = ((8 * i + 3 : Nat) : Int) := by rw [w64 (by omega) (by omega)]; omega
    have a4 : wrap64 (((8 * i : Nat) : Int) + 4) = ((8 * i + 4 : Nat) : Int) := by rw [w64 (by omega) (by omega)]; omega
    have a8 : wrap64 (((8 * i : Nat) : Int) + 8) = ((8 * (i + 1) : Nat) : Int) := by rw [w64 (by omega) (by omega)]; omega
    have ai : wrap64 ((i : Int) + 1) = ((i + 1 : Nat) : Int) := by rw [w64 (by omega) (by omega)]; omega
    have hz : (List.range (d + 1)).all (fun j => s.data.toList.getD (8 * (i + j) + 3) 0 == 0) = ((s.data.toList.getD (8 * i + 3) 0 == 0) && (List.range d).all (fun j => s.data.toList.getD (8 * (i + 1 + j) + 3) 0 == 0)) := by
      rw [List.range_succ_eq_map, List.all_cons, List.all_map]
      congr 1
      congr 1
      funext j
      simp only [Function.comp]
      rw [show i + Nat.succ j = i + 1 + j by omega]
    rw [hz]
    have b3 : ∀ n : Nat, bt s (n : Int) = ((s.data.toList.getD n 0).toNat : Int) := bt_get s
    by_cases h3 : s.data.toList.getD (8 * i + 3) 0 = 0
    · have eb : bt s ((8 * i + 3 : Nat) : Int) = 0 := by rw [b3, h3]; rfl
      obtain ⟨hg, hu⟩ := get4 s i
      have hw : wrap64 ((unB ((blk s.data.toList i).drop 4) : Int) - 2147483648) = (unB ((blk s.data.toList i).drop 4) : Int) - 2147483648 := w64 (by clear hg; omega) (by clear hg; omega)
      have wb : ∀ n : Nat, wrap64 (bt s (n : Int)) = bt s (n : Int) := fun n => by
        have := bt_range s (n : Int)
        rw [w64 (by omega) (by omega)]
      have hdec : decs s.data.toList (i + 1) = decs s.data.toList i ++ [(⟨bt s ((8 * i : Nat) : Int), bt s ((8 * i + 1 : Nat) : Int), bt s ((8 * i + 2 : Nat) : Int), (unB ((blk s.data.toList i).drop 4) : Int) - 2147483648⟩ : Ins)] := by
        unfold decs
        rw [List.range_succ, List.map_append]
        simp only [List.map_cons, List.map_nil]
        unfold decI
        rw [blk_at _ _ 0 (by omega), blk_at _ _ 1 (by omega), blk_at _ _ 2 (by omega), b3, b3, b3]; rfl
      have hlen : ((decs s.data.toList i).map toR).length = i := by rw [List.length_map, decs_len]
      have ih' := ih (i + 1) qi
      rw [hdec, List.map_append, List.all_append] at ih'
      generalize hX : (⟨bt s ((8 * i : Nat) : Int), bt s ((8 * i + 1 : Nat) : Int), bt s ((8 * i + 2 : Nat) : Int), (unB ((blk s.data.toList i).drop 4) : Int) - 2147483648⟩ : Ins) = X at *
      have hX0 : bt s ((8 * i : Nat) : Int) = X.f0 := by rw [← hX]
      have hX1 : bt s ((8 * i + 1 : Nat) : Int) = X.f1 := by rw [← hX]
      have hX2 : bt s ((8 * i + 2 : Nat) : Int) = X.f2 := by rw [← hX]
      have hX3 : (unB ((blk s.data.toList i).drop 4) : Int) - 2147483648 = X.f3 := by rw [← hX]
      have w0 : wrap64 X.f0 = X.f0 := by rw [← hX0]; exact wb _
      have w1 : wrap64 X.f1 = X.f1 := by rw [← hX1]; exact wb _
      have w2 : wrap64 X.f2 = X.f2 := by rw [← hX2]; exact wb _
      have eall : [X].all rightB = rightB X := by simp
      rw [eall] at ih'
      have egd : ((s.data.toList.getD (8 * i + 3) 0 == 0) && (List.range d).all (fun j => s.data.toList.getD (8 * (i + 1 + j) + 3) 0 == 0)) = (List.range d).all (fun j => s.data.toList.getD (8 * (i + 1 + j) + 3) 0 == 0) := by rw [h3]; simp
      rw [egd]
      refine Ev.step (f := fun k => (posthorseref01_Get.f k (s.extract (8 * i + 4) (8 * (i + 1)))).bind fun t132 => (if (decs s.data.toList i).all rightB = true then ((posthorseref17_Right.f k X.f0 X.f1 X.f2 (wrap64 (t132 - 2147483648))).bind fun t134 => posthorseref17_Get.l0 k s ((decs s.data.toList i).map toR ++ [(⟨X.f0, X.f1, X.f2, wrap64 (t132 - 2147483648)⟩ : RIns)]) t134 ((i + 1 : Nat) : Int)) else (posthorseref17_Get.l0 k s ((decs s.data.toList i).map toR ++ [(⟨X.f0, X.f1, X.f2, wrap64 (t132 - 2147483648)⟩ : RIns)]) false ((i + 1 : Nat) : Int)))) (fun k => ?_) ?_
      · rw [posthorseref17_Get.l0]
        simp only [em, a0, a1, a2, a3, a4, a8, ai, eb, wb, hX0, hX1, hX2, hlen, Int.toNat_natCast]
        rw [if_pos q1, if_pos q2, if_pos q3, if_pos trivial, if_pos q4, if_pos q5, if_pos q6, if_pos q7, if_pos q8, if_pos q9, if_pos q10, if_pos q11, if_pos q12]
        simp only [if_pos q0, w0, w1, w2]
      · refine Ev.bind (ref01_Get_ev _) ?_
        rw [hg, hw, hX3]
        have eR : ([(⟨X.f0, X.f1, X.f2, X.f3⟩ : RIns)] : List RIns) = [X].map toR := rfl
        rw [eR]
        cases hr : (decs s.data.toList i).all rightB with
        | true =>
          simp only [if_true]
          refine Ev.bind (refR_ev X) ?_
          rw [hr, Bool.true_and] at ih'
          exact ih'
        | false =>
          simp only [Bool.false_eq_true, if_false]
          rw [hr, Bool.false_and] at ih'
          exact ih'
    · have eb : ¬ bt s ((8 * i + 3 : Nat) : Int) = 0 := by
        rw [b3]
        intro h
        refine h3 (UInt8.toNat_inj.1 ?_)
        have : (s.data.toList.getD (8 * i + 3) 0).toNat = 0 := by omega
        rw [this]; rfl
      have e : (s.data.toList.getD (8 * i + 3) 0 == 0) = false := beq_eq_false_iff_ne.2 h3
      rw [e]
      refine Ev.from 1 fun k => ?_
      rw [posthorseref17_Get.l0, em, if_pos q1, a0, a3, if_pos q2, if_pos q3, if_neg eb, Bool.false_and, if_neg (by decide)]
/-- What the document's Get answers. -/
def refGet (l : List UInt8) : List RIns × Int := ((getS l).1.map toR, (getS l).2.getD 0)
theorem ref17_Get_ev (s : ByteArray) (hs : s.size < 35184372088832) : Ev (fun k => posthorseref17_Get.f k s) (refGet s.data.toList) := by
  unfold posthorseref17_Get.f refGet getS
  rw [dlen]
  by_cases h : s.size % 8 = 0
  · simp only [if_pos (show (s.size : Int) % 8 = 0 by omega), if_pos h]
    have := ref17_Get_loop s (s.size / 8) (by omega) (by omega) (s.size / 8) 0 (by omega)
    rw [show decs s.data.toList 0 = [] from rfl] at this
    by_cases hc : (List.range (s.size / 8)).all (fun i => s.data.toList.getD (8 * i + 3) 0 == 0) = true
    · rw [if_pos hc]
      simp only [Nat.zero_add] at this
      rw [if_pos hc] at this
      exact this
    · rw [if_neg hc]
      simp only [Nat.zero_add] at this
      rw [if_neg hc] at this
      exact this
  · simp only [if_neg (show ¬ (s.size : Int) % 8 = 0 by omega), if_neg h]; exact Ev.now _

/-! ### CodeGets -/
theorem speaks_ev : Ev (fun k => posthorselaw17_speaks.f k) true := Ev.of posthorselaw17_speaks.mono (k := 40) (by decide +kernel)
theorem insB_dec (b : List UInt8) (h8 : b.length = 8) (h3 : b.getD 3 0 = 0) : insB (decI b) = b := by
  obtain ⟨b0, b1, b2, b3, b4, b5, b6, b7, rfl⟩ : ∃ b0 b1 b2 b3 b4 b5 b6 b7, b = [b0, b1, b2, b3, b4, b5, b6, b7] := by
    match b, h8 with
    | [b0, b1, b2, b3, b4, b5, b6, b7], _ => exact ⟨b0, b1, b2, b3, b4, b5, b6, b7, rfl⟩
  have h3' : b3 = 0 := h3
  subst h3'
  have hl := leB_unB [b4, b5, b6, b7]
  have e : (decI [b0, b1, b2, 0, b4, b5, b6, b7]) = ⟨(b0.toNat : Int), (b1.toNat : Int), (b2.toNat : Int), (unB [b4, b5, b6, b7] : Int) - 2147483648⟩ := rfl
  have p0 := b0.toNat_lt
  have p1 := b1.toNat_lt
  have p2 := b2.toNat_lt
  have q : ∀ c : UInt8, UInt8.ofNat (((c.toNat : Nat) : Int) % 256).toNat = c := fun c => by
    have := c.toNat_lt
    rw [show (((c.toNat : Nat) : Int) % 256).toNat = c.toNat by omega]; simp
  rw [e]
  unfold insB
  simp only [q]
  rw [show ((unB [b4, b5, b6, b7] : Int) - 2147483648 + 2147483648).toNat = unB [b4, b5, b6, b7] by omega, show (4 : Nat) = [b4, b5, b6, b7].length from rfl, hl]; rfl
theorem blks (l : List UInt8) : ∀ n, (List.range n).flatMap (fun i => blk l i) = l.take (8 * n)
  | 0 => by simp
  | n + 1 => by
    rw [List.range_succ, List.flatMap_append, blks l n, show 8 * (n + 1) = 8 * n + 8 by omega, List.take_add]
    simp [blk]
theorem put_decs (l : List UInt8) (n : Nat) (hn : l.length = 8 * n) (h : ∀ i, i < n → l.getD (8 * i + 3) 0 = 0) : putB (decs l n) = l := by
  have e : ∀ L : List Nat, (∀ i ∈ L, i < n) → (L.map fun i => decI (blk l i)).flatMap insB = L.flatMap (fun i => blk l i) := by
    intro L
    induction L with
    | nil => intro _; rfl
    | cons a L ih =>
      intro hL
      have ha := hL a (by simp)
      have hbl : (blk l a).length = 8 := by unfold blk; rw [List.length_take, List.length_drop]; omega
      rw [List.map_cons, List.flatMap_cons, List.flatMap_cons, ih (fun i hi => hL i (by simp [hi])), insB_dec _ hbl (by rw [blk_at _ _ 3 (by omega)]; exact h a ha)]
  unfold putB decs
  rw [e _ (fun i hi => by simpa using hi), blks, List.take_of_length_le (by omega)]
theorem end_ev (a0 : ByteArray) (hs : a0.size ≤ 1100) (out : List Ins) (ho : out = (getS a0.data.toList).1) (n : Int) (hn : n = (getS a0.data.toList).2.getD 0) : ∀ (d i : Nat), i + d = out.length → Ev (fun k => posthorselaw17_CodeGets.l0 k a0 out (out.map toR) n (i : Int)) true := by
  have hlen : out.length ≤ 128 := by
    rw [ho]
    unfold getS
    split
    · split
      · unfold getT
        split
        · exact Nat.zero_le _
        · rename_i h
          split
          · exact Nat.le_of_not_lt h
          · exact Nat.zero_le _
      · exact Nat.zero_le _
    · exact Nat.zero_le _
  intro d
  induction d with
  | zero =>
    intro i hi
    have hml : (out.map toR).length = out.length := List.length_map _
    refine Ev.step (f := fun k => if n = 0 then ((code_Put.f k out).bind fun bt153 => (if bt153.2.isNone = true then (some (bt153.1.toList == a0.toList)) else (some false))) else (some true)) (fun k => by rw [posthorselaw17_CodeGets.l0, if_neg (by omega)]) ?_
    by_cases h0 : n = 0
    · simp only [if_pos h0]
      have hg : out.all rightB = true ∧ putB out = a0.data.toList := by
        rw [h0] at hn
        unfold getS at ho hn
        by_cases h1 : a0.data.toList.length % 8 = 0
        · rw [if_pos h1] at ho hn
          by_cases h2 : (List.range (a0.data.toList.length / 8)).all (fun i => a0.data.toList.getD (8 * i + 3) 0 == 0) = true
          · rw [if_pos h2] at ho hn
            unfold getT at ho hn
            by_cases h3 : 128 < (decs a0.data.toList (a0.data.toList.length / 8)).length
            · rw [if_pos h3] at hn; exact absurd hn (by decide)
            · rw [if_neg h3] at ho hn
              by_cases h4 : (decs a0.data.toList (a0.data.toList.length / 8)).all rightB = true
              · rw [if_pos h4] at ho
                refine ⟨by rw [ho]; exact h4, ?_⟩
                rw [ho]
                exact put_decs _ _ (by omega) (fun i hi => by have := List.all_eq_true.1 h2 i (by simpa using hi); simpa using this)
              · rw [if_neg h4] at hn; exact absurd hn (by decide)
          · rw [if_neg h2] at hn; exact absurd hn (by decide)
        · rw [if_neg h1] at hn; exact absurd hn (by decide)
      have hw : ∀ y ∈ out, (Lit.int .i64 y.f3).wf = true := fun y hy => by
        obtain ⟨_, _, _, _, _, _, h7, h8⟩ := right_range (List.all_eq_true.1 hg.1 y hy)
        have := wrap64_wf y.f3
        rwa [w64 (by omega) (by omega)] at this
      have hp := code_Put_ev out hw
      unfold putS at hp
      rw [if_neg (by omega), if_pos hg.1, hg.2] at hp
      refine Ev.bind hp ?_
      simp only [Option.isNone_none, if_true]
      simp only [dl, beq_self_eq_true]
      exact Ev.now _
    · simp only [if_neg h0]; exact Ev.now _
  | succ d ih =>
    intro i hi
    have hml : (out.map toR).length = out.length := List.length_map _
    have e1 : wrap64 ((i : Int) + 1) = ((i + 1 : Nat) : Int) := by rw [w64 (by omega) (by omega)]; omega
    refine Ev.step (fun k => ?_) (ih (i + 1) (by omega))
    have hR := rdR (out.map toR) i (by omega)
    have hI := rdIns out i (by omega)
    rw [List.getElem_map] at hR
    rw [posthorselaw17_CodeGets.l0, if_pos (by omega), if_pos (by omega), if_pos (by omega), e1, hR, hI, if_neg]
    simp [toR]
theorem CodeGets : CodeGets.Pure := by
  intro s hs
  refine Ev.rounds (g := fun k => posthorselaw17_CodeGets.f k s) ?_
  unfold posthorselaw17_CodeGets.f
  refine Ev.bind speaks_ev ?_
  simp only [if_true]
  by_cases h : (s.size : Int) > 1100
  · simp only [if_pos h]; exact Ev.now _
  · simp only [if_neg h]
    refine Ev.bind (code_Get_ev s (by omega)) (Ev.bind (ref17_Get_ev s (by omega)) ?_)
    refine Ev.bind (a := (getS s.data.toList).2.getD 0) (Ev.now _) ?_
    have e2 : (refGet s.data.toList).2 = (getS s.data.toList).2.getD 0 := rfl
    have e1 : (refGet s.data.toList).1 = (getS s.data.toList).1.map toR := rfl
    simp only [e2, if_true, e1, List.length_map, bne_self_eq_false]
    refine Ev.step (fun k => by rw [posthorselaw17_CodeGets.j0, if_neg (by decide)]) ?_
    exact end_ev s (by omega) _ rfl _ rfl (getS s.data.toList).1.length 0 (Nat.zero_add _)

end Go.Proofs.YtekjkbocblonmaaDoor.Pure
