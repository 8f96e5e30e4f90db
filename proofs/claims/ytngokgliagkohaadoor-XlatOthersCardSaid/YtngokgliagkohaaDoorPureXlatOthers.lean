/- XlatOthers: the pure law; for every input, no condition. -/
import Derived.Test.YtngokgliagkohaaDoorVXlatOthersx13
import Derived.OpenShut
import Derived.Lib.IndexEntry
namespace Go.Proofs.YtngokgliagkohaaDoor.Pure
open Go Go.RowKit Go.Proofs.YtngokgliagkohaaDoor.VXlatOthers Go.Proofs.YtngokgliagkohaaDoorW.PrintWords Go.Proofs.YtngokgliagkohaaDoorW.PrintLast
set_option linter.unusedSimpArgs false
set_option linter.unusedVariables false

def XlatOthers.Pure : Prop := ∀ (l0 : List (S54)) (a1 : Int), (l0.length * 56 ≤ 140737488351232 ∧ l0.length ≤ maxLen ∧ ∀ l0y ∈ l0, ((Lit.int .i64 l0y.f0).wf = true ∧ (Lit.int .i64 l0y.f1).wf = true ∧ (Lit.int .i64 l0y.f2).wf = true ∧ (Lit.int .i64 l0y.f3).wf = true ∧ (l0y.f4.length * 16 ≤ 140737488351232 ∧ l0y.f4.length ≤ maxLen ∧ ∀ l0y_f4y ∈ l0y.f4, ((Lit.int .i64 l0y_f4y.f0).wf = true ∧ (Lit.int .i64 l0y_f4y.f1).wf = true)))) → (Lit.int .i64 a1).wf = true → ∃ k, posthorselaw23_XlatOthers.f k l0 a1 = some true
/-! ### base -/
theorem dl (s : ByteArray) : s.toList = s.data.toList := Lib.toList_data s
theorem deq {a b : ByteArray} : a = b ↔ a.data.toList = b.data.toList := ⟨fun h => by rw [h], fun h => Go.WideShapes.bytes_inj h⟩
theorem dapp (a b : ByteArray) : (a ++ b).data.toList = a.data.toList ++ b.data.toList := by simp
theorem dlen (a : ByteArray) : a.data.toList.length = a.size := by rw [Array.length_toList]; rfl
theorem w64 {n : Int} (h0 : -9223372036854775808 ≤ n) (h1 : n ≤ 9223372036854775807) : wrap64 n = n := by unfold wrap64; omega
theorem i64b {n : Int} (h : (Lit.int .i64 n).wf = true) : -9223372036854775808 ≤ n ∧ n ≤ 9223372036854775807 := bounds_i64 h
theorem u8w (n : Int) : IntKind.u8.wrap n = n % 256 := IntKind.wrap_u8 n
theorem Ev.all {α : Type} {g : Nat → Option α} {r : α} (h : ∀ k, g k = some r) : Ev g r := ⟨0, fun k _ => h k⟩
theorem Ev.bindS {α β : Type} {g : Nat → Option α} {f : Nat → α → Option β} {a : α} {r : β} (h : Ev g a) (k : Ev (fun n => f n a) r) : Ev (fun n => (g n).bind (f n)) r := Ev.bind h k
theorem Ev.from {α : Type} {g : Nat → Option α} {r : α} (j : Nat) (h : ∀ k, g (k + j) = some r) : Ev g r := ⟨j, fun k hk => by have := h (k - j); rwa [Nat.sub_add_cancel hk] at this⟩
theorem Ev.to {α : Type} {g : Nat → Option α} {r : α} (h : Ev g r) : ∃ k, g k = some r := h.rounds
theorem Ev.at_ {α : Type} {g : Nat → Option α} {r : α} (hg : ∀ k, LeO (g k) (g (k + 1))) {j : Nat} (h : g j = some r) : Ev g r := Ev.of hg h

/-! ### ext08 -/
/-- The sectors of an extent. -/
def runX (a n : Int) : List Int := (List.range n.toNat).map fun (k : Nat) => a + (k : Int)
theorem runX_len (a n : Int) : (runX a n).length = n.toNat := by simp [runX]
theorem runX_get (a n : Int) (j : Nat) (h : j < n.toNat) : (runX a n).getD j 0 = a + (j : Int) := by
  unfold runX
  rw [List.getD_eq_getElem?_getD, List.getElem?_map, List.getElem?_range h]; rfl
abbrev EX := S63
/-- The sectors of all. -/
def secs (xs : List EX) : List Int := xs.flatMap fun e => runX e.f0 e.f1
theorem secs_cons (e : EX) (xs : List EX) : secs (e :: xs) = runX e.f0 e.f1 ++ secs xs := rfl
theorem secs_app (xs ys : List EX) : secs (xs ++ ys) = secs xs ++ secs ys := by unfold secs; rw [List.flatMap_append]
/-- An extent within bounds. -/
def okX (e : EX) : Prop := 0 ≤ e.f0 ∧ e.f0 ≤ 1000000 ∧ 1 ≤ e.f1 ∧ e.f1 ≤ 1000000
/-- What Map answers. -/
def mapS : List EX → Int → Int × Bool
  | [], _ => (0, false)
  | e :: xs, b => if b < e.f1 then (wrap64 (e.f0 + b), true) else mapS xs (wrap64 (b - e.f1))
theorem mapS_secs : ∀ (xs : List EX) (b : Int), (∀ e ∈ xs, okX e) → 0 ≤ b → b ≤ 9223372036854775807 → mapS xs b = if b < ((secs xs).length : Int) then ((secs xs).getD b.toNat 0, true) else (0, false)
  | [], b, _, h0, _ => by rw [mapS, if_neg (by simp [secs]; omega)]
  | e :: xs, b, hx, h0, h1 => by
    obtain ⟨e0, e1, e2, e3⟩ := hx e (by simp)
    have hl : (secs (e :: xs)).length = e.f1.toNat + (secs xs).length := by rw [secs_cons, List.length_append, runX_len]
    rw [mapS]
    by_cases c : b < e.f1
    · rw [if_pos c, if_pos (by omega), w64 (by omega) (by omega)]
      congr 1
      rw [secs_cons, List.getD_eq_getElem?_getD, List.getElem?_append_left (by rw [runX_len]; omega), ← List.getD_eq_getElem?_getD, runX_get _ _ _ (by omega)]
      omega
    · rw [if_neg c, w64 (by omega) (by omega), mapS_secs xs (b - e.f1) (fun y hy => hx y (by simp [hy])) (by omega) (by omega)]
      by_cases c2 : b - e.f1 < ((secs xs).length : Int)
      · rw [if_pos c2, if_pos (by omega)]
        congr 1
        rw [secs_cons, List.getD_eq_getElem?_getD, List.getD_eq_getElem?_getD, List.getElem?_append_right (by rw [runX_len]; omega), runX_len]
        congr 2
        omega
      · rw [if_neg c2, if_neg (by omega)]
theorem rdX (xs : List EX) (i : Nat) (h : i < xs.length) : rd_T63 xs (i : Int) = xs[i] := by
  unfold rd_T63
  rw [Int.toNat_natCast, List.getD_eq_getElem?_getD, List.getElem?_eq_getElem h]; rfl
theorem map_ev (v : Int) (xs : List EX) (hl : xs.length ≤ 1000000) (b : Int) : Ev (fun k => inode_Map.f k v xs b) (if b < 0 then (0, false) else mapS xs b) := by
  unfold inode_Map.f
  by_cases h0 : b < 0
  · simp only [if_pos h0]; exact Ev.now _
  · simp only [if_neg h0]
    have lp : ∀ (d i : Nat) (b : Int), i + d = xs.length → Ev (fun k => inode_Map.l0 k b xs (xs.length : Int) (i : Int)) (mapS (xs.drop i) b) := by
      intro d
      induction d with
      | zero =>
        intro i b hi
        rw [List.drop_eq_nil_of_le (by omega)]
        refine Ev.from 1 fun k => ?_
        rw [inode_Map.l0, if_neg (by omega)]; rfl
      | succ d ih =>
        intro i b hi
        have hil : i < xs.length := by omega
        rw [List.drop_eq_getElem_cons hil, mapS]
        by_cases c : b < (xs[i]).f1
        · rw [if_pos c]
          refine Ev.from 1 fun k => ?_
          rw [inode_Map.l0, if_pos (by omega), if_pos (by omega), if_pos (by omega), rdX xs i hil, if_pos c]
        · rw [if_neg c]
          refine Ev.step (fun k => ?_) (ih (i + 1) _ (by omega))
          rw [inode_Map.l0, if_pos (by omega), if_pos (by omega), if_pos (by omega), rdX xs i hil, if_neg c, w64 (n := (i : Int) + 1) (by omega) (by omega)]
          rfl
    have := lp xs.length 0 b (by omega)
    rw [List.drop_zero] at this
    exact this
/-- What Block answers. -/
def blockS : List EX → Int → Int → Int × Bool
  | [], _, _ => (0, false)
  | e :: xs, s, n => if s ≥ e.f0 then (if wrap64 (s - e.f0) < e.f1 then (wrap64 (wrap64 (n + s) - e.f0), true) else blockS xs s (wrap64 (n + e.f1))) else blockS xs s (wrap64 (n + e.f1))
/-- A number's place in a list; -1. -/
def hasL : List Int → Int → Int → Int
  | [], _, _ => -1
  | y :: S, n, i => if y = n then i else hasL S n (i + 1)
theorem hasL_run (S : List Int) (s : Int) : ∀ (m : Nat) (a i : Int), hasL (((List.range m).map fun (k : Nat) => a + (k : Int)) ++ S) s i = if a ≤ s ∧ s < a + (m : Int) then i + (s - a) else hasL S s (i + (m : Int))
  | 0, a, i => by
    rw [if_neg (by omega)]
    simp
  | m + 1, a, i => by
    have e : ((List.range (m + 1)).map fun (k : Nat) => a + (k : Int)) ++ S = a :: (((List.range m).map fun (k : Nat) => (a + 1) + (k : Int)) ++ S) := by
      rw [List.range_succ_eq_map, List.map_cons, List.map_map]
      have : ((fun (k : Nat) => a + (k : Int)) ∘ Nat.succ) = fun (k : Nat) => (a + 1) + (k : Int) := by
        funext k
        show a + ((k + 1 : Nat) : Int) = _
        omega
      rw [this]
      show (a + ((0 : Nat) : Int)) :: _ = _
      rw [show a + ((0 : Nat) : Int) = a by omega]; rfl
    rw [e, hasL, hasL_run S s m (a + 1) (i + 1)]
    by_cases c : a = s
    · rw [if_pos c, if_pos (by omega)]; omega
    · rw [if_neg c]
      by_cases c2 : a + 1 ≤ s ∧ s < a + 1 + (m : Int)
      · rw [if_pos c2, if_pos (by omega)]; omega
      · rw [if_neg c2, if_neg (by omega)]
        congr 1; omega
theorem block_has : ∀ (xs : List EX) (s n : Int), (∀ e ∈ xs, okX e) → -9223372036854775808 ≤ s → s ≤ 9223372036854775807 → 0 ≤ n → n + (xs.length : Int) * 1000000 ≤ 1000000000000 → blockS xs s n = if 0 ≤ hasL (secs xs) s n then (hasL (secs xs) s n, true) else (0, false)
  | [], s, n, _, _, _, _, _ => by rw [blockS, secs, List.flatMap_nil, hasL, if_neg (by decide)]
  | e :: xs, s, n, hx, hs0, hs1, hn, hm => by
    obtain ⟨e0, e1, e2, e3⟩ := hx e (by simp)
    have hm' : n + ((xs.length : Int) + 1) * 1000000 ≤ 1000000000000 := by
      have : ((e :: xs).length : Int) = (xs.length : Int) + 1 := by simp
      rwa [this] at hm
    have ih := block_has xs s (n + e.f1) (fun y hy => hx y (by simp [hy])) hs0 hs1 (by omega) (by omega)
    rw [blockS, secs_cons]
    unfold runX
    rw [hasL_run (secs xs) s e.f1.toNat e.f0 n, show ((e.f1.toNat : Nat) : Int) = e.f1 by omega, w64 (n := n + e.f1) (by omega) (by omega)]
    by_cases c : s ≥ e.f0
    · rw [if_pos c, w64 (n := s - e.f0) (by omega) (by omega)]
      by_cases c2 : s - e.f0 < e.f1
      · rw [if_pos c2, if_pos (show e.f0 ≤ s ∧ s < e.f0 + e.f1 by omega), if_pos (by omega), w64 (n := n + s) (by omega) (by omega), w64 (by omega) (by omega)]
        congr 1; omega
      · rw [if_neg c2, if_neg (show ¬ (e.f0 ≤ s ∧ s < e.f0 + e.f1) by omega)]; exact ih
    · rw [if_neg c, if_neg (show ¬ (e.f0 ≤ s ∧ s < e.f0 + e.f1) by omega)]; exact ih
/-! ### andm -/
theorem andm (a : Int) (m : Nat) (hm : m < 4611686018427387904) (n : Nat) (hn : 2 ^ n = m + 1) : Go.bits .and .i64 a (m : Int) = a % ((m + 1 : Nat) : Int) := by
  have ha : (BitVec.ofInt 64 a).toNat = (a % 18446744073709551616).toNat := by
    rw [BitVec.toNat_ofInt]; rfl
  show IntKind.i64.wrap ((BitVec.ofInt 64 a &&& BitVec.ofInt 64 (m : Int)).toNat : Int) = _
  rw [BitVec.toNat_and, show (BitVec.ofInt 64 (m : Int)).toNat = m by rw [BitVec.ofInt_natCast, BitVec.toNat_ofNat, Nat.mod_eq_of_lt (by omega)], ha]
  have e : (a % 18446744073709551616).toNat &&& m = (a % 18446744073709551616).toNat % (m + 1) := by
    rw [← hn, show m = 2 ^ n - 1 by omega]; exact Nat.and_two_pow_sub_one_eq_mod _ n
  rw [e]
  have hlt : (a % 18446744073709551616).toNat % (m + 1) < m + 1 := Nat.mod_lt _ (by omega)
  have hdv : ((m + 1 : Nat) : Int) ∣ 18446744073709551616 := by
    rw [← hn]
    have h64 : n ≤ 64 := by
      rcases Nat.lt_or_ge 64 n with h | h
      · have := Nat.pow_le_pow_right (show 0 < 2 by decide) (show 65 ≤ n by omega)
        omega
      · exact h
    have : ((2 ^ n : Nat) : Int) ∣ ((2 ^ 64 : Nat) : Int) := Int.natCast_dvd_natCast.2 (Nat.pow_dvd_pow 2 h64)
    exact this
  have e2 : (((a % 18446744073709551616).toNat % (m + 1) : Nat) : Int) = a % ((m + 1 : Nat) : Int) := by
    rw [Int.natCast_emod, Int.toNat_of_nonneg (by omega), Int.emod_emod_of_dvd _ hdv]
  rw [e2]
  have h1 := Int.emod_nonneg a (show ((m + 1 : Nat) : Int) ≠ 0 by omega)
  have h2 := Int.emod_lt_of_pos a (show (0 : Int) < ((m + 1 : Nat) : Int) by omega)
  have hm1 : ((m + 1 : Nat) : Int) = (m : Int) + 1 := by omega
  rw [hm1] at h1 h2 ⊢
  generalize a % ((m : Int) + 1) = q at *
  simp only [IntKind.wrap, IntKind.bits, IntKind.signed]
  simp; omega

/-! ### made23 -/
theorem made23_ev (v : Int) (L : List S88) : ∃ q, Ev (fun k => posthorselaw23_made.f k v L) q ∧ q.1 = v ∧ q.2.1.length ≤ 10 := by
  have lp : ∀ (d i : Nat) (xs : List XExt) (ys : List S89), i + d = 10 → xs.length = i → ys.length = i → ∃ q, Ev (fun k => posthorselaw23_made.l0 k L (i : Int) v xs v ys) q ∧ q.1 = v ∧ q.2.1.length ≤ 10 := by
    intro d
    induction d with
    | zero =>
      intro i xs ys hi hx hy
      refine ⟨(v, xs, v, ys), Ev.from 1 fun k => ?_, rfl, by show xs.length ≤ 10; omega⟩
      rw [posthorselaw23_made.l0]
      by_cases c : (i : Int) < (L.length : Int)
      · rw [if_pos c, if_neg (show ¬ (i : Int) < 10 by omega)]
      · rw [if_neg c]
    | succ d ih =>
      intro i xs ys hi hx hy
      by_cases c : (i : Int) < (L.length : Int)
      · by_cases c10 : (i : Int) < 10
        · obtain ⟨q, hq, h1, h2⟩ := ih (i + 1) (xs ++ [⟨Go.bits .and .i64 (rd_T88 L (i : Int)).f0 1023, wrap64 (1 + Go.bits .and .i64 (rd_T88 L (i : Int)).f1 15)⟩]) (ys ++ [⟨Go.bits .and .i64 (rd_T88 L (i : Int)).f0 1023, wrap64 (1 + Go.bits .and .i64 (rd_T88 L (i : Int)).f1 15)⟩]) (by omega) (by simp [hx]) (by simp [hy])
          refine ⟨q, Ev.step (fun k => ?_) hq, h1, h2⟩
          rw [posthorselaw23_made.l0, if_pos c, if_pos c10, if_pos (show (0 : Int) ≤ (i : Int) by omega)]
          simp only [Option.bind_some]
          rw [if_pos (by simp [hx]; omega), if_pos (by simp [hy]; omega), show wrap64 ((i : Int) + 1) = ((i + 1 : Nat) : Int) by unfold wrap64; omega]
        · exact ⟨(v, xs, v, ys), Ev.from 1 fun k => by rw [posthorselaw23_made.l0, if_pos c, if_neg c10], rfl, by show xs.length ≤ 10; omega⟩
      · exact ⟨(v, xs, v, ys), Ev.from 1 fun k => by rw [posthorselaw23_made.l0, if_neg c], rfl, by show xs.length ≤ 10; omega⟩
  exact lp 10 0 [] [] rfl rfl rfl
theorem mapS_zero : ∀ (xs : List EX) (b : Int), (mapS xs b).2 = false → (mapS xs b).1 = 0
  | [], b, _ => rfl
  | e :: xs, b, h => by
    unfold mapS at h ⊢
    split
    · rename_i c; rw [if_pos c] at h; cases h
    · rename_i c; rw [if_neg c] at h; exact mapS_zero xs _ h

/-! ### speaks23 -/
theorem speaks23_ev : Ev (fun k => posthorselaw23_speaks.f k) true := Ev.at_ (fun k => posthorselaw23_speaks.mono k) (j := 20) (by decide +kernel)

/-! ### XlatOthers -/
def OInv (m : List (Int × XEnt)) : Prop := lookE (-1) m = some (5, [⟨7, 9⟩]) ∧ ∀ x ∈ m, x.2.2.length ≤ 10
theorem look_put_ne {f g : Int} (e : XEnt) (h : g ≠ f) : ∀ m : List (Int × XEnt), lookE g (putE f e m) = lookE g m
  | [] => by show (if g = f then some e else lookE g []) = lookE g []; rw [if_neg h]
  | x :: m => by
    rw [putE]
    split
    · rename_i c
      rw [lookE, if_neg h, lookE, if_neg (by rw [← c]; exact h)]
    · rw [lookE, lookE, look_put_ne e h m]
theorem look_drop_ne {f g : Int} (h : g ≠ f) : ∀ m : List (Int × XEnt), lookE g (dropE f m) = lookE g m
  | [] => rfl
  | x :: m => by
    rw [dropE]
    split
    · rename_i c
      rw [lookE, if_neg (by rw [← c]; exact h)]
    · rw [lookE, lookE, look_drop_ne h m]
theorem all_put {f : Int} {e : XEnt} {P : Int × XEnt → Prop} (he : P (f, e)) : ∀ m : List (Int × XEnt), (∀ x ∈ m, P x) → ∀ x ∈ putE f e m, P x
  | [], _ => by intro x hx; rw [putE, List.mem_singleton] at hx; rw [hx]; exact he
  | y :: m, h => by
    intro x hx
    rw [putE] at hx
    split at hx
    · rcases List.mem_cons.1 hx with rfl | hx
      · exact he
      · exact h x (List.mem_cons_of_mem _ hx)
    · rcases List.mem_cons.1 hx with rfl | hx
      · exact h x List.mem_cons_self
      · exact all_put he m (fun z hz => h z (List.mem_cons_of_mem _ hz)) x hx
theorem all_drop {f : Int} {P : Int × XEnt → Prop} : ∀ m : List (Int × XEnt), (∀ x ∈ m, P x) → ∀ x ∈ dropE f m, P x
  | [], h => h
  | y :: m, h => by
    intro x hx
    rw [dropE] at hx
    split at hx
    · exact h x (List.mem_cons_of_mem _ hx)
    · rcases List.mem_cons.1 hx with rfl | hx
      · exact h x List.mem_cons_self
      · exact all_drop m (fun z hz => h z (List.mem_cons_of_mem _ hz)) x hx
theorem look_mem {f : Int} {e : XEnt} : ∀ m : List (Int × XEnt), lookE f m = some e → (f, e) ∈ m
  | [], h => by cases h
  | x :: m, h => by
    rw [lookE] at h
    split at h
    · rename_i c
      obtain rfl := Option.some.inj h
      rw [c]; exact List.mem_cons_self
    · exact List.mem_cons_of_mem _ (look_mem m h)
theorem find23_ev (m : List (Int × XEnt)) (hm : ∀ x ∈ m, x.2.2.length ≤ 10) (f b v : Int) : ∃ r, Ev (fun k => findX k m f b v) r ∧ (r.2.2 = m ∨ r.2.2 = dropE f m) := by
  unfold findX
  cases hl : lookE f m with
  | none => exact ⟨_, Ev.all fun k => rfl, .inl rfl⟩
  | some e =>
    have hlen := hm _ (look_mem m hl)
    have hlen : e.2.length ≤ 10 := hlen
    by_cases c : e.1 = v
    · simp only [if_pos c]
      have hmap := map_ev e.1 e.2 (by omega) b
      generalize (if b < 0 then ((0 : Int), false) else mapS e.2 b) = t at hmap
      obtain ⟨t1, t2⟩ := t
      cases t2 with
      | true => exact ⟨_, Ev.bind hmap (Ev.all fun k => rfl), .inl rfl⟩
      | false => exact ⟨_, Ev.bind hmap (Ev.all fun k => rfl), .inl rfl⟩
    · simp only [if_neg c]
      exact ⟨_, Ev.all fun k => rfl, .inr rfl⟩
theorem oFile_ne (f : Int) : (-1 : Int) ≠ oFile f := by unfold oFile; split <;> omega
theorem othStep_ev (m : List (Int × XEnt)) (hm : OInv m) (x : XAct) : ∃ m', OInv m' ∧ Ev (fun k => othStep k m x) m' := by
  unfold othStep
  have hn := oFile_ne x.f1
  generalize oFile x.f1 = f at hn
  by_cases c1 : sel6 x.f0 = 2 ∨ sel6 x.f0 = 3 ∨ sel6 x.f0 = 4
  · simp only [if_pos c1]
    obtain ⟨r, hr, h⟩ := find23_ev m hm.2 f x.f2 x.f3
    refine ⟨r.2.2, ?_, Ev.bind hr (Ev.all fun k => rfl)⟩
    rcases h with h | h
    · rw [h]; exact hm
    · rw [h]; exact ⟨(look_drop_ne hn m).trans hm.1, all_drop m hm.2⟩
  · simp only [if_neg c1]
    by_cases c2 : sel6 x.f0 = 5
    · simp only [if_pos c2]
      exact ⟨_, ⟨(look_drop_ne hn m).trans hm.1, all_drop m hm.2⟩, Ev.all fun k => rfl⟩
    · simp only [if_neg c2]
      obtain ⟨⟨v, xs, v3, ys⟩, hq, h1, h2⟩ := made23_ev x.f3 x.f4
      have h2 : xs.length ≤ 10 := h2
      have hx : xs.length < 8796093022208 := by omega
      refine ⟨putE f (v, xs) m, ⟨(look_put_ne _ hn m).trans hm.1, all_put h2 m hm.2⟩, Ev.bind hq ?_⟩
      simp only [hx, if_true]
      exact Ev.all fun k => rfl
theorem othEnd_ev (bl : Int) (m : List (Int × XEnt)) (hm : OInv m) : Ev (fun k => othEnd k bl m) m := by
  have hmap := map_ev 5 [⟨7, 9⟩] (by decide) bl
  unfold othEnd
  generalize ht : (if bl < 0 then ((0 : Int), false) else mapS [⟨7, 9⟩] bl) = t at hmap
  have hz : t.2 = false → t.1 = 0 := by
    rw [← ht]
    split
    · intro _; rfl
    · exact mapS_zero _ bl
  obtain ⟨t1, t2⟩ := t
  cases t2 with
  | true =>
    refine Ev.bind (a := (t1, none, m)) ?_ (Ev.bind hmap ?_)
    · unfold findX
      rw [hm.1]
      simp only [if_true]
      exact Ev.bind hmap (Ev.all fun k => rfl)
    · exact Ev.all fun k => by simp
  | false =>
    obtain rfl : t1 = 0 := hz rfl
    refine Ev.bind (a := (0, some 8, m)) ?_ (Ev.bind hmap ?_)
    · unfold findX
      rw [hm.1]
      simp only [if_true]
      exact Ev.bind hmap (Ev.all fun k => rfl)
    · exact Ev.all fun k => by simp
theorem XlatOthers : XlatOthers.Pure := by
  intro l0 a1 _ _
  have lp : ∀ (d i : Nat) (m : List (Int × XEnt)), i + d = 40 → OInv m → Ev (fun k => posthorselaw23_XlatOthers.l0 k l0 a1 m i) true := by
    intro d
    induction d with
    | zero =>
      intro i m hi hm
      exact Ev.from 1 fun k => by rw [posthorselaw23_XlatOthers.l0, if_neg (by omega), if_pos (by unfold verE; rw [hm.1])]
    | succ d ih =>
      intro i m hi hm
      by_cases c : i < l0.length ∧ i < 40
      · obtain ⟨m1, hm1, hs⟩ := othStep_ev m hm (rd_T54 l0 (i : Int))
        refine Ev.step (fun k => ?_) (Ev.bind (f := fun n m1 => (othEnd n a1 m1).bind fun m2 => posthorselaw23_XlatOthers.l0 n l0 a1 m2 (i + 1)) hs (Ev.bind (f := fun n m2 => posthorselaw23_XlatOthers.l0 n l0 a1 m2 (i + 1)) (othEnd_ev a1 m1 hm1) (ih (i + 1) m1 (by omega) hm1)))
        rw [posthorselaw23_XlatOthers.l0, if_pos c]
      · exact Ev.from 1 fun k => by rw [posthorselaw23_XlatOthers.l0, if_neg c, if_pos (by unfold verE; rw [hm.1])]
  exact Ev.rounds (Ev.bind speaks23_ev (lp 40 0 _ rfl ⟨rfl, fun x hx => by
    rw [show putE (-1) (5, [⟨7, 9⟩]) [] = [(-1, (5, [⟨7, 9⟩]))] from rfl, List.mem_singleton] at hx
    rw [hx]; show 1 ≤ 10; decide⟩))

end Go.Proofs.YtngokgliagkohaaDoor.Pure
