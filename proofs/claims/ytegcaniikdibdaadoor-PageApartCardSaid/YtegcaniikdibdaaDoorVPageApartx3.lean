/- Contracts of functions of this seat: each call comes to what its Lean function computes; no condition beyond what each theorem states. Printed by a program of this session's own laid over the kit's printer. -/
import Derived.Test.YtegcaniikdibdaaDoorVPageApartx0
import Derived.Test.YtegcaniikdibdaaDoorVPageApartx2
import Derived.Test.YtegcaniikdibdaaDoorVPageApartx1
import Derived.Shelf.Strings.Trim
namespace Go.Proofs.YtegcaniikdibdaaDoor.VPageApart
open Go.RowKit Go.Proofs.YtegcaniikdibdaaDoorW.PrintWords Go.Proofs.YtegcaniikdibdaaDoorW.PrintLast Go.Proofs.YtegcaniikdibdaaDoorW.PrintMore
attribute [local go_sem] max2_int min2_int max_two min_two max_three min_three max_four min_four   -- for this text's walks alone
set_option linter.unusedSimpArgs false
set_option linter.unusedVariables false
section
open Bool renaming true → T, false → F

-- @GIVEN page_With
/-! ### page_With: by hand -/
def page_With.f (k : Nat) (a0_0 : Int) (l0_1 : List ByteArray) (l0_2 : List ByteArray) (l0_3 : List Int) (a1 : ByteArray) (a2 : ByteArray) : Option (Int × List ByteArray × List ByteArray × List Int) :=
 if l0_1.length ≤ 1000 ∧ l0_2.length ≤ 1000 then (page_Find.f k a0_0 l0_1 l0_2 l0_3 a1).bind fun r =>
  if r.2 = true then (if 0 ≤ r.1 ∧ r.1 < (l0_2.length : Int) then some (a0_0, l0_1, l0_2.set r.1.toNat a2, []) else none)
  else (if 0 ≤ r.1 ∧ r.1 ≤ (l0_1.length : Int) ∧ r.1 ≤ (l0_2.length : Int) then some (a0_0, l0_1.take r.1.toNat ++ a1 :: l0_1.drop r.1.toNat, l0_2.take r.1.toNat ++ a2 :: l0_2.drop r.1.toNat, []) else none)
 else none
theorem page_With.mono : ∀ a0 a1 a2 a3 a4 a5 k, LeO (page_With.f k a0 a1 a2 a3 a4 a5) (page_With.f (k + 1) a0 a1 a2 a3 a4 a5) := by
 intro a0 a1 a2 a3 a4 a5 k; unfold page_With.f; exact LeO.ite (LeO.bind (page_Find.mono _ _ _ _ _ k) fun _ => LeO.refl _) (LeO.refl _)
set_option maxHeartbeats 16000000 in
set_option maxRecDepth 100000 in
theorem page_With.calls (k : Nat) (a0_0 : Int) (A0_1 : Option Addr) (c0_1 : Nat) (l0_1 : List ByteArray) (A0_2 : Option Addr) (c0_2 : Nat) (l0_2 : List ByteArray) (A0_3 : Option Addr) (c0_3 : Nat) (l0_3 : List Int) (a1 : ByteArray) (a2 : ByteArray) (r1 : Int) (r2 : List ByteArray) (r3 : List ByteArray) (r4 : List Int) (w : World) (hr0_1 : Kd.C Kd.string w A0_1 l0_1.length l0_1) (hc0_1 : l0_1.length ≤ c0_1) (hr0_2 : Kd.C Kd.string w A0_2 l0_2.length l0_2) (hc0_2 : l0_2.length ≤ c0_2) (hr0_3 : Kd.C (Kd.int .i64) w A0_3 l0_3.length l0_3) (hc0_3 : l0_3.length ≤ c0_3) (h : page_With.f k a0_0 l0_1 l0_2 l0_3 a1 a2 = some (r1, r2, r3, r4)) :
  Calls Tryd.prog 33 #[.agg #[.int .i64 a0_0, .slice A0_1 l0_1.length c0_1, .slice A0_2 l0_2.length c0_2, .slice A0_3 l0_3.length c0_3], .string a1, .string a2] w fun e w' => ∃ v1_ v2_ v3_ : Value, e = .returned (.agg #[.int .i64 r1, v1_, v2_, v3_]) ∧ Kd.R Kd.string 9 w' w.heap.size (fun k_ => some k_ ≠ (v2_ : Value).ownBlock) v1_ r2 ∧ Kd.R Kd.string 9 w' w.heap.size (fun k_ => some k_ ≠ (v1_ : Value).ownBlock) v2_ r3 ∧ Kd.R (Kd.int .i64) 3 w' w.heap.size (fun _ => True) v3_ r4 ∧ Below w.heap.size w w' := by
 unfold page_With.f at h
 by_cases hlen : l0_1.length ≤ 1000 ∧ l0_2.length ≤ 1000
 case neg => rw [if_neg hlen] at h; cases h
 rw [if_pos hlen] at h; obtain ⟨⟨fi, ft⟩, hfind, h⟩ := Option.bind_eq_some_iff.mp h; have HR1 := A0k (fun (W : World) (hb : Below w.heap.size w W) => Kd.C_below hr0_1 hb); have HR2 := A0k (fun (W : World) (hb : Below w.heap.size w W) => Kd.C_below hr0_2 hb); have HR3 := A0k (fun (W : World) (hb : Below w.heap.size w W) => Kd.C_below hr0_3 hb); have HC1 := A0k hc0_1; have HC2 := A0k hc0_2; have HC3 := A0k hc0_3; have HLE := A0k hlen; have HFI := A0k hfind; have HH := A0k h; have HCK := A0k (show slices_Clone_string_string.f l0_1 = some l0_1 by unfold slices_Clone_string_string.f; rw [if_pos (by omega)]); have HCV := A0k (show slices_Clone_string_string.f l0_2 = some l0_2 by unfold slices_Clone_string_string.f; rw [if_pos (by omega)]); have HX0 := A0k (bA (heap_alloc_new w (.cells #[.int .i64 a0_0, .slice A0_1 l0_1.length c0_1, .slice A0_2 l0_2.length c0_2, .slice A0_3 l0_3.length c0_3] 69)) (.cells #[.int .i64 0, .slice none 0 0, .slice none 0 0, .slice none 0 0] 69)); have HZ0 := A0k (show ((w.alloc (.cells #[.int .i64 a0_0, .slice A0_1 l0_1.length c0_1, .slice A0_2 l0_2.length c0_2, .slice A0_3 l0_3.length c0_3] 69)).alloc (.cells #[.int .i64 0, .slice none 0 0, .slice none 0 0, .slice none 0 0] 69)).heap[w.heap.size + 1]? = some (.cells #[.int .i64 0, .slice none 0 0, .slice none 0 0, .slice none 0 0] 69 (0, 0)) from by have hx := heap_alloc_new (w.alloc (.cells #[.int .i64 a0_0, .slice A0_1 l0_1.length c0_1, .slice A0_2 l0_2.length c0_2, .slice A0_3 l0_3.length c0_3] 69)) (.cells #[.int .i64 0, .slice none 0 0, .slice none 0 0, .slice none 0 0] 69); rw [show (w.alloc (.cells #[.int .i64 a0_0, .slice A0_1 l0_1.length c0_1, .slice A0_2 l0_2.length c0_2, .slice A0_3 l0_3.length c0_3] 69)).heap.size = w.heap.size + 1 by simp] at hx; exact hx); have HB0 := A0k (pA (pA (Below.refl w.heap.size w) (.cells #[.int .i64 a0_0, .slice A0_1 l0_1.length c0_1, .slice A0_2 l0_2.length c0_2, .slice A0_3 l0_3.length c0_3] 69)) (.cells #[.int .i64 0, .slice none 0 0, .slice none 0 0, .slice none 0 0] 69)); have HN0 := A0k (show w.heap.size + 2 ≤ ((w.alloc (.cells #[.int .i64 a0_0, .slice A0_1 l0_1.length c0_1, .slice A0_2 l0_2.length c0_2, .slice A0_3 l0_3.length c0_3] 69)).alloc (.cells #[.int .i64 0, .slice none 0 0, .slice none 0 0, .slice none 0 0] 69)).heap.size by simp); have HGX := A0k (show w.heap.size + 1 ≠ w.heap.size by omega); have hu := Tryd.underlying69; clear hr0_1 hc0_1 hr0_2 hc0_2 hr0_3 hc0_3 hlen hfind h; go_enter Tryd.func33, Tryd.ntmps33
 go_wp2_with fail
 obtain ⟨gz, hgz⟩ : ∃ gz, w.heap.size + 1 = gz := ⟨_, rfl⟩
 have HGZ := A0k hgz; simp only [hgz] at HZ0 HGX ⊢; clear hgz; generalize hw0 : (w.alloc (.cells #[.int .i64 a0_0, .slice A0_1 l0_1.length c0_1, .slice A0_2 l0_2.length c0_2, .slice A0_3 l0_3.length c0_3] 69)).alloc (.cells #[.int .i64 0, .slice none 0 0, .slice none 0 0, .slice none 0 0] 69) = w0 at *; clear hw0; refine start_ (n := 11) (S := fun w' => w'.cell? ⟨w.heap.size, 0, none⟩ = some (.int .i64 a0_0) ∧ w'.cell? ⟨w.heap.size, 1, none⟩ = some (.slice A0_1 l0_1.length c0_1) ∧ w'.cell? ⟨w.heap.size, 2, none⟩ = some (.slice A0_2 l0_2.length c0_2)) (ds := [10]) #[F,F,F,F,F,F,F,F,F,F,F] (by kernel_rfl) rfl rfl ⟨(bC (bD HX0.out) 0).trans rfl, (bC (bD HX0.out) 1).trans rfl, (bC (bD HX0.out) 2).trans rfl⟩ (fun hHeld => ?_); refine zp 0 10 #[T,F,F,F,F,F,F,F,F,F,F] ?_
 refine zp 2 12 #[T,F,T,F,F,F,F,F,F,F,F] ?_
 refine zp 5 15 #[T,F,T,F,F,T,F,F,F,F,F] ?_
 refine zt3 1 11 #[T,T,T,F,F,T,F,F,F,F,F] hHeld ?_; refine zt3 3 13 #[T,T,T,T,F,T,F,F,F,F,F] hHeld ?_; refine zt3 6 16 #[T,T,T,T,F,T,T,F,F,F,F] hHeld ?_; refine join_ (σ := Option Addr × Nat × Option Addr × Nat × Nat × Nat) 1 #[T,T,T,T,T,T,T,T,T,T,F] (fun s => [(14, .slice s.1 l0_1.length s.2.1), (17, .slice s.2.2.1 l0_2.length s.2.2.2.1), (7, .pointer (some ⟨s.2.2.2.2.2, 0, none⟩)), (18, .agg #[.int .i64 a0_0, .slice s.1 l0_1.length s.2.1, .slice s.2.2.1 l0_2.length s.2.2.2.1, .slice none 0 0])]) (fun s w' => (w'.cell? ⟨w.heap.size, 0, none⟩ = some (.int .i64 a0_0) ∧ w'.cell? ⟨w.heap.size, 1, none⟩ = some (.slice A0_1 l0_1.length c0_1) ∧ w'.cell? ⟨w.heap.size, 2, none⟩ = some (.slice A0_2 l0_2.length c0_2)) ∧ Aside0 (Below w.heap.size w w') ∧ Aside0 (w'.heap[w.heap.size]? = some (.cells #[.int .i64 a0_0, .slice A0_1 l0_1.length c0_1, .slice A0_2 l0_2.length c0_2, .slice A0_3 l0_3.length c0_3] 69 (0, 0))) ∧ Aside0 (w'.heap[gz]? = some (.cells #[.int .i64 0, .slice none 0 0, .slice none 0 0, .slice none 0 0] 69 (0, 0))) ∧ Aside0 (w.heap.size + 2 ≤ w'.heap.size) ∧ Aside0 (Kd.R Kd.string 9 w' w.heap.size (fun k_ => k_ < s.2.2.2.2.1) (.slice s.1 l0_1.length s.2.1) l0_1) ∧ Aside0 (w'.heap[s.2.2.2.2.2]? = some (.cells #[.int .i64 0, .slice none 0 0, .slice none 0 0, .slice none 0 0] 69 (0, 0))) ∧ Aside0 (w.heap.size + 2 ≤ s.2.2.2.2.2) ∧ Aside0 (Kd.R Kd.string 9 w' w.heap.size (fun k_ => s.2.2.2.2.1 ≤ k_) (.slice s.2.2.1 l0_2.length s.2.2.2.1) l0_2) ∧ Aside0 (s.2.2.2.2.1 ≤ w'.heap.size)) ?_ ?_; rotate_left
 ·intro hJ4_7_9; refine join_ (σ := Option Addr × Nat × Option Addr × Nat × Nat) 2 #[T,T,T,T,T,T,T,T,T,F,F] (fun s => [(14, .slice s.1 l0_1.length s.2.1), (17, .slice s.2.2.1 l0_2.length s.2.2.2.1), (18, .agg #[.int .i64 a0_0, .slice s.1 l0_1.length s.2.1, .slice s.2.2.1 l0_2.length s.2.2.2.1, .slice none 0 0])]) (fun s w' => (w'.cell? ⟨w.heap.size, 0, none⟩ = some (.int .i64 a0_0) ∧ w'.cell? ⟨w.heap.size, 1, none⟩ = some (.slice A0_1 l0_1.length c0_1) ∧ w'.cell? ⟨w.heap.size, 2, none⟩ = some (.slice A0_2 l0_2.length c0_2)) ∧ Aside0 (Below w.heap.size w w') ∧ Aside0 (w'.heap[w.heap.size]? = some (.cells #[.int .i64 a0_0, .slice A0_1 l0_1.length c0_1, .slice A0_2 l0_2.length c0_2, .slice A0_3 l0_3.length c0_3] 69 (0, 0))) ∧ Aside0 (w'.heap[gz]? = some (.cells #[.int .i64 0, .slice none 0 0, .slice none 0 0, .slice none 0 0] 69 (0, 0))) ∧ Aside0 (w.heap.size + 2 ≤ w'.heap.size) ∧ Aside0 (Kd.R Kd.string 9 w' w.heap.size (fun k_ => k_ < s.2.2.2.2) (.slice s.1 l0_1.length s.2.1) l0_1) ∧ Aside0 (Kd.R Kd.string 9 w' w.heap.size (fun k_ => s.2.2.2.2 ≤ k_) (.slice s.2.2.1 l0_2.length s.2.2.2.1) l0_2) ∧ Aside0 (s.2.2.2.2 ≤ w'.heap.size)) ?_ ?_; rotate_left
  ·intro hJ4_7; refine join_ (σ := Option Addr × Nat × Nat) 3 #[T,T,T,T,T,T,T,F,F,T,F] (fun s => [(14, .slice s.1 l0_1.length s.2.1), (7, .pointer (some ⟨s.2.2, 0, none⟩))]) (fun s w' => (w'.cell? ⟨w.heap.size, 0, none⟩ = some (.int .i64 a0_0) ∧ w'.cell? ⟨w.heap.size, 1, none⟩ = some (.slice A0_1 l0_1.length c0_1) ∧ w'.cell? ⟨w.heap.size, 2, none⟩ = some (.slice A0_2 l0_2.length c0_2)) ∧ Aside0 (Below w.heap.size w w') ∧ Aside0 (w'.heap[w.heap.size]? = some (.cells #[.int .i64 a0_0, .slice A0_1 l0_1.length c0_1, .slice A0_2 l0_2.length c0_2, .slice A0_3 l0_3.length c0_3] 69 (0, 0))) ∧ Aside0 (w'.heap[gz]? = some (.cells #[.int .i64 0, .slice none 0 0, .slice none 0 0, .slice none 0 0] 69 (0, 0))) ∧ Aside0 (w.heap.size + 2 ≤ w'.heap.size) ∧ Aside0 (Kd.R Kd.string 9 w' w.heap.size (fun k_ => True) (.slice s.1 l0_1.length s.2.1) l0_1) ∧ Aside0 (w'.heap[s.2.2]? = some (.cells #[.int .i64 0, .slice none 0 0, .slice none 0 0, .slice none 0 0] 69 (0, 0))) ∧ Aside0 (w.heap.size + 2 ≤ s.2.2)) ?_ ?_; rotate_left
   ·intro hJ4_9; refine join_ (σ := Option Addr × Nat) 4 #[T,T,T,T,T,T,T,F,F,F,F] (fun s => [(14, .slice s.1 l0_1.length s.2)]) (fun s w' => (w'.cell? ⟨w.heap.size, 0, none⟩ = some (.int .i64 a0_0) ∧ w'.cell? ⟨w.heap.size, 1, none⟩ = some (.slice A0_1 l0_1.length c0_1) ∧ w'.cell? ⟨w.heap.size, 2, none⟩ = some (.slice A0_2 l0_2.length c0_2)) ∧ Aside0 (Below w.heap.size w w') ∧ Aside0 (w'.heap[w.heap.size]? = some (.cells #[.int .i64 a0_0, .slice A0_1 l0_1.length c0_1, .slice A0_2 l0_2.length c0_2, .slice A0_3 l0_3.length c0_3] 69 (0, 0))) ∧ Aside0 (w'.heap[gz]? = some (.cells #[.int .i64 0, .slice none 0 0, .slice none 0 0, .slice none 0 0] 69 (0, 0))) ∧ Aside0 (w.heap.size + 2 ≤ w'.heap.size) ∧ Aside0 (Kd.R Kd.string 9 w' w.heap.size (fun k_ => True) (.slice s.1 l0_1.length s.2) l0_1)) ?_ ?_; rotate_left
    ·intro hJ4; refine join_ (σ := Nat) 4 #[T,T,T,T,F,T,T,F,F,T,F] (fun s => [(7, .pointer (some ⟨s, 0, none⟩))]) (fun s w' => (w'.cell? ⟨w.heap.size, 0, none⟩ = some (.int .i64 a0_0) ∧ w'.cell? ⟨w.heap.size, 1, none⟩ = some (.slice A0_1 l0_1.length c0_1) ∧ w'.cell? ⟨w.heap.size, 2, none⟩ = some (.slice A0_2 l0_2.length c0_2)) ∧ Aside0 (Below w.heap.size w w') ∧ Aside0 (w'.heap[w.heap.size]? = some (.cells #[.int .i64 a0_0, .slice A0_1 l0_1.length c0_1, .slice A0_2 l0_2.length c0_2, .slice A0_3 l0_3.length c0_3] 69 (0, 0))) ∧ Aside0 (w'.heap[gz]? = some (.cells #[.int .i64 0, .slice none 0 0, .slice none 0 0, .slice none 0 0] 69 (0, 0))) ∧ Aside0 (w.heap.size + 2 ≤ w'.heap.size) ∧ Aside0 (w'.heap[s]? = some (.cells #[.int .i64 0, .slice none 0 0, .slice none 0 0, .slice none 0 0] 69 (0, 0))) ∧ Aside0 (w.heap.size + 2 ≤ s)) ?_ ?_; rotate_left
     ·intro hJ9; refine two_ (i := 4) (j := 9) (Ni := some 14) (Nj := some 7) #[T,T,T,T,T,T,T,F,F,F,F] #[T,T,T,T,F,T,T,F,F,T,F] rfl rfl rfl rfl (by kernel_rfl) (by decide) (by decide) (fun K hK => ?_) (fun K hK => ?_)
      ·skip; refine goes_ Tryd.func59 (by kernel_rfl) rfl #[.slice A0_1 l0_1.length c0_1] (by rfl) rfl rfl z70 ?_
       with_reducible refine (slices_Clone_string_string.calls A0_1 c0_1 l0_1 l0_1 _ (HR1.out _ HB0.out.drew) HC1.out HCK.out).mono ?_
       rintro e_ wN ⟨v_, rfl, hr_, hb_⟩; refine ⟨_, rfl, ?_⟩; obtain ⟨A_, c_, rfl⟩ := Kd.R_slice hr_; have HBN := A0k (pS HB0.out.drew hb_); have HXN := A0k (bB (bD HX0.out) hb_); have HZN := A0k (bB (bD HZ0.out) hb_); have HNN := A0k (Nat.le_trans (show w.heap.size + 2 ≤ w0.drew.heap.size from HN0.out) (Below.size hb_)); have HKN := A0k (Kd.R_lower hr_ (Nat.le_trans (Nat.le_add_right _ 2) (show w.heap.size + 2 ≤ w0.drew.heap.size from HN0.out))); refine hK.out _ _ ⟨bq HXN.out 0, bq HXN.out 1, bq HXN.out 2⟩ (fun hHeld => ?_); clear hK K; refine zn ?_
       exact norm_ z26 (hJ4 (A_, c_) _ ⟨hHeld, HBN, HXN, HZN, HNN, HKN⟩)
      ·skip; refine value_ (w1 := ?_) (v := ?_) (by rfl) rfl ?_ ?_; rotate_left 2
       ·go_simp
        constructor
        ·rfl
        ·rfl
       have HBN := A0k (pS HB0.out.drew (pA (Below.refl _ _) (.cells #[.int .i64 0, .slice none 0 0, .slice none 0 0, .slice none 0 0] 69))); have HXN := A0k (bB (bD HX0.out) (pA (Below.refl _ _) (.cells #[.int .i64 0, .slice none 0 0, .slice none 0 0, .slice none 0 0] 69))); have HZN := A0k (bB (bD HZ0.out) (pA (Below.refl _ _) (.cells #[.int .i64 0, .slice none 0 0, .slice none 0 0, .slice none 0 0] 69))); have HNN := A0k (Nat.le_trans (show w.heap.size + 2 ≤ w0.drew.heap.size from HN0.out) (Below.size (pA (Below.refl _ _) (.cells #[.int .i64 0, .slice none 0 0, .slice none 0 0, .slice none 0 0] 69)))); have HGN := A0k (heap_alloc_new w0.drew (.cells #[.int .i64 0, .slice none 0 0, .slice none 0 0, .slice none 0 0] 69)); have HGNN := A0k ((show w.heap.size + 2 ≤ w0.drew.heap.size from HN0.out)); refine hK.out _ _ ⟨bq HXN.out 0, bq HXN.out 1, bq HXN.out 2⟩ (fun hHeld => ?_); clear hK K; refine zn ?_
       exact norm_ z26 (hJ9 w0.drew.heap.size _ ⟨hHeld, HBN, HXN, HZN, HNN, HGN, HGNN⟩)
     ·skip; rintro g9 wJ9 ⟨hHeld, HBJ, HXJ, HZJ, HNJ, HGJ, HGNJ⟩
      try dsimp only at HGJ
      try dsimp only at HGNJ
      refine zm ?_
      refine zo 4 14 #[T,T,T,T,T,T,T,F,F,T,F] (fun K hK => ?_); refine goes_ Tryd.func59 (by kernel_rfl) rfl #[.slice A0_1 l0_1.length c0_1] (by rfl) rfl rfl z70 ?_
      with_reducible refine (slices_Clone_string_string.calls A0_1 c0_1 l0_1 l0_1 _ (HR1.out _ HBJ.out) HC1.out HCK.out).mono ?_
      rintro e_ wN ⟨v_, rfl, hr_, hb_⟩; refine ⟨_, rfl, ?_⟩; obtain ⟨A_, c_, rfl⟩ := Kd.R_slice hr_; have HBN := A0k (pS HBJ.out hb_); have HXN := A0k (bB HXJ.out hb_); have HZN := A0k (bB HZJ.out hb_); have HNN := A0k (Nat.le_trans HNJ.out (Below.size hb_)); have HKN := A0k (Kd.R_lower hr_ (Nat.le_trans (Nat.le_add_right _ 2) HNJ.out)); have HGN := A0k (bB HGJ.out hb_); have HGNN := A0k (HGNJ.out); refine hK.out _ _ ⟨bq HXN.out 0, bq HXN.out 1, bq HXN.out 2⟩ (fun hHeld => ?_); clear hK K; refine zn ?_
      exact norm_ z26 (hJ4_9 (A_, c_, g9) _ ⟨hHeld, HBN, HXN, HZN, HNN, HKN, HGN, HGNN⟩)
    ·skip; rintro ⟨A4, c4⟩ wJ4 ⟨hHeld, HBJ, HXJ, HZJ, HNJ, HKJ⟩
     try dsimp only at HKJ
     refine zm ?_
     refine two_ (i := 7) (j := 9) (Ni := some 17) (Nj := some 7) #[T,T,T,T,T,T,T,T,F,F,F] #[T,T,T,T,T,T,T,F,F,T,F] rfl rfl rfl rfl (by kernel_rfl) (by decide) (by decide) (fun K hK => ?_) (fun K hK => ?_)
     ·skip; refine goes_ Tryd.func59 (by kernel_rfl) rfl #[.slice A0_2 l0_2.length c0_2] (by rfl) rfl rfl z70 ?_
      with_reducible refine (slices_Clone_string_string.calls A0_2 c0_2 l0_2 l0_2 _ (HR2.out _ HBJ.out) HC2.out HCV.out).mono ?_
      rintro e_ wN ⟨v_, rfl, hr_, hb_⟩; refine ⟨_, rfl, ?_⟩; obtain ⟨A_, c_, rfl⟩ := Kd.R_slice hr_; have HBN := A0k (pS HBJ.out hb_); have HXN := A0k (bB HXJ.out hb_); have HZN := A0k (bB HZJ.out hb_); have HNN := A0k (Nat.le_trans HNJ.out (Below.size hb_)); have HKN := A0k (Kd.R_below (Kd.R_mono (Kd.R_bound HKJ.out) (fun _ hk_ => hk_.2.2.1)) hb_); have HVN := A0k ((show Kd.R Kd.string 9 wN w.heap.size (fun k_ => wJ4.heap.size ≤ k_) _ _ from Kd.R_lower (Kd.R_mono (Kd.R_bound hr_) (fun _ hk_ => hk_.2.1)) (Nat.le_trans (Nat.le_add_right _ 2) HNJ.out))); have HMN := A0k (Below.size hb_); refine hK.out _ _ ⟨bq HXN.out 0, bq HXN.out 1, bq HXN.out 2⟩ (fun hHeld => ?_); clear hK K; refine zn ?_
      refine zp 8 18 #[T,T,T,T,T,T,T,T,T,F,F] ?_
      exact norm_ z26 (hJ4_7 (A4, c4, A_, c_, wJ4.heap.size) _ ⟨hHeld, HBN, HXN, HZN, HNN, HKN, HVN, HMN⟩)
     ·skip; refine value_ (w1 := ?_) (v := ?_) (by rfl) rfl ?_ ?_; rotate_left 2
      ·go_simp
       constructor
       ·rfl
       ·rfl
      have HBN := A0k (pS HBJ.out (pA (Below.refl _ _) (.cells #[.int .i64 0, .slice none 0 0, .slice none 0 0, .slice none 0 0] 69))); have HXN := A0k (bB HXJ.out (pA (Below.refl _ _) (.cells #[.int .i64 0, .slice none 0 0, .slice none 0 0, .slice none 0 0] 69))); have HZN := A0k (bB HZJ.out (pA (Below.refl _ _) (.cells #[.int .i64 0, .slice none 0 0, .slice none 0 0, .slice none 0 0] 69))); have HNN := A0k (Nat.le_trans HNJ.out (Below.size (pA (Below.refl _ _) (.cells #[.int .i64 0, .slice none 0 0, .slice none 0 0, .slice none 0 0] 69)))); have HKN := A0k (Kd.R_below HKJ.out (pA (Below.refl _ _) (.cells #[.int .i64 0, .slice none 0 0, .slice none 0 0, .slice none 0 0] 69))); have HGN := A0k (heap_alloc_new wJ4 (.cells #[.int .i64 0, .slice none 0 0, .slice none 0 0, .slice none 0 0] 69)); have HGNN := A0k (HNJ.out); refine hK.out _ _ ⟨bq HXN.out 0, bq HXN.out 1, bq HXN.out 2⟩ (fun hHeld => ?_); clear hK K; refine zn ?_
      exact norm_ z26 (hJ4_9 (A4, c4, wJ4.heap.size) _ ⟨hHeld, HBN, HXN, HZN, HNN, HKN, HGN, HGNN⟩)
   ·skip; rintro ⟨A4, c4, g9⟩ wJ4_9 ⟨hHeld, HBJ, HXJ, HZJ, HNJ, HKJ, HGJ, HGNJ⟩
    try dsimp only at HKJ
    try dsimp only at HGJ
    try dsimp only at HGNJ
    refine zm ?_
    refine zo 7 17 #[T,T,T,T,T,T,T,T,F,T,F] (fun K hK => ?_); refine goes_ Tryd.func59 (by kernel_rfl) rfl #[.slice A0_2 l0_2.length c0_2] (by rfl) rfl rfl z70 ?_
    with_reducible refine (slices_Clone_string_string.calls A0_2 c0_2 l0_2 l0_2 _ (HR2.out _ HBJ.out) HC2.out HCV.out).mono ?_
    rintro e_ wN ⟨v_, rfl, hr_, hb_⟩; refine ⟨_, rfl, ?_⟩; obtain ⟨A_, c_, rfl⟩ := Kd.R_slice hr_; have HBN := A0k (pS HBJ.out hb_); have HXN := A0k (bB HXJ.out hb_); have HZN := A0k (bB HZJ.out hb_); have HNN := A0k (Nat.le_trans HNJ.out (Below.size hb_)); have HKN := A0k (Kd.R_below (Kd.R_mono (Kd.R_bound HKJ.out) (fun _ hk_ => hk_.2.2.1)) hb_); have HGN := A0k (bB HGJ.out hb_); have HGNN := A0k (HGNJ.out); have HVN := A0k ((show Kd.R Kd.string 9 wN w.heap.size (fun k_ => wJ4_9.heap.size ≤ k_) _ _ from Kd.R_lower (Kd.R_mono (Kd.R_bound hr_) (fun _ hk_ => hk_.2.1)) (Nat.le_trans (Nat.le_add_right _ 2) HNJ.out))); have HMN := A0k (Below.size hb_); refine hK.out _ _ ⟨bq HXN.out 0, bq HXN.out 1, bq HXN.out 2⟩ (fun hHeld => ?_); clear hK K; refine zn ?_
    refine zp 8 18 #[T,T,T,T,T,T,T,T,T,T,F] ?_
    exact norm_ z26 (hJ4_7_9 (A4, c4, A_, c_, wJ4_9.heap.size, g9) _ ⟨hHeld, HBN, HXN, HZN, HNN, HKN, HGN, HGNN, HVN, HMN⟩)
  ·skip; rintro ⟨A4, c4, A7, c7, m7⟩ wJ4_7 ⟨hHeld, HBJ, HXJ, HZJ, HNJ, HKJ, HVJ, HMJ⟩
   try dsimp only at HKJ
   try dsimp only at HVJ
   try dsimp only at HMJ
   refine zm ?_
   refine zo 9 7 #[T,T,T,T,T,T,T,T,T,T,F] (fun K hK => ?_); refine value_ (w1 := ?_) (v := ?_) (by rfl) rfl ?_ ?_; rotate_left 2
   ·go_simp
    constructor
    ·rfl
    ·rfl
   have HBN := A0k (pS HBJ.out (pA (Below.refl _ _) (.cells #[.int .i64 0, .slice none 0 0, .slice none 0 0, .slice none 0 0] 69))); have HXN := A0k (bB HXJ.out (pA (Below.refl _ _) (.cells #[.int .i64 0, .slice none 0 0, .slice none 0 0, .slice none 0 0] 69))); have HZN := A0k (bB HZJ.out (pA (Below.refl _ _) (.cells #[.int .i64 0, .slice none 0 0, .slice none 0 0, .slice none 0 0] 69))); have HNN := A0k (Nat.le_trans HNJ.out (Below.size (pA (Below.refl _ _) (.cells #[.int .i64 0, .slice none 0 0, .slice none 0 0, .slice none 0 0] 69)))); have HKN := A0k (Kd.R_below HKJ.out (pA (Below.refl _ _) (.cells #[.int .i64 0, .slice none 0 0, .slice none 0 0, .slice none 0 0] 69))); have HGN := A0k (heap_alloc_new wJ4_7 (.cells #[.int .i64 0, .slice none 0 0, .slice none 0 0, .slice none 0 0] 69)); have HGNN := A0k (HNJ.out); have HVN := A0k (Kd.R_below HVJ.out (pA (Below.refl _ _) (.cells #[.int .i64 0, .slice none 0 0, .slice none 0 0, .slice none 0 0] 69))); have HMN := A0k (Nat.le_trans HMJ.out (Below.size (pA (Below.refl _ _) (.cells #[.int .i64 0, .slice none 0 0, .slice none 0 0, .slice none 0 0] 69)))); refine hK.out _ _ ⟨bq HXN.out 0, bq HXN.out 1, bq HXN.out 2⟩ (fun hHeld => ?_); clear hK K; refine zn ?_
   exact norm_ z26 (hJ4_7_9 (A4, c4, A7, c7, m7, wJ4_7.heap.size) _ ⟨hHeld, HBN, HXN, HZN, HNN, HKN, HGN, HGNN, HVN, HMN⟩)
 rintro ⟨A4, c4, A7, c7, m7, g9⟩ w5 ⟨hHeld, HB, HX, HZ, HN, HK, HG, HGN, HV, HM⟩
 try dsimp only at HK
 try dsimp only at HG
 try dsimp only at HGN
 try dsimp only at HV
 try dsimp only at HM
 refine zm ?_
 refine last_ (i := 10) (N := none) #[T,T,T,T,T,T,T,T,T,T,T] rfl rfl (by kernel_rfl) (by decide) (fun K hK => ?_); have hg0 := (bC HG.out 0).trans rfl; have hg1 := (bC HG.out 1).trans rfl; have hg2 := (bC HG.out 2).trans rfl; have hg3 := (bC HG.out 3).trans rfl; have hf0 := bF HG.out 0; have hf1 := bF HG.out 1; have hf2 := bF HG.out 2; have hf3 := bF HG.out 3; refine skip_ (w1 := ?_) (by rfl) rfl ?_ ?_; rotate_left
 ·go_simp
  rfl
 refine hK.out _ _ ?_; clear hK K; refine done_ (by kernel_rfl) ?_; have hgr := gr_four (W := w5) (g := g9) (.int .i64 a0_0) (.slice A4 l0_1.length c4) (.slice A7 l0_2.length c7) (.slice none 0 0); have HG6 := A0k (set_four (x := .int .i64 a0_0) (y := .slice A4 l0_1.length c4) (z := .slice A7 l0_2.length c7) (u := .slice none 0 0) HG.out); have HNE := A0k (show w.heap.size ≠ g9 ∧ gz ≠ g9 by have h1 := HGN.out; have h2 := HGZ.out; omega); have HX6 := A0k (blk_gr HX.out hgr (some_ne HNE.out.1)); have HZ6 := A0k (blk_gr HZ.out hgr (some_ne HNE.out.2)); have HK6 := A0k (Kd.R_blk HK.out HG.out (by decide) hgr); have HV6 := A0k (Kd.R_blk HV.out HG.out (by decide) hgr); have HB6 := A0k (HB.out.grown hgr HB.out.size (fun k_ hk_ => by have h1 := HGN.out; have h2 : k_ = g9 := (by simpa using hk_.symm); omega)); have HM6 := A0k (Nat.le_trans HM.out hgr.4); clear hgr HG HX HZ HK HV HB HM HN hg0 hg1 hg2 hg3 hf0 hf1 hf2 hf3
 (try clear hHeld)
 generalize (((w5.setCell ⟨g9, 0, none⟩ (.int .i64 a0_0)).setCell ⟨g9, 1, none⟩ (.slice A4 l0_1.length c4)).setCell ⟨g9, 2, none⟩ (.slice A7 l0_2.length c7)).setCell ⟨g9, 3, none⟩ (.slice none 0 0) = w6 at *; have H := HH.out; clear HH; have hx0 := (bC HX6.out 0).trans rfl; have hx1 := (bC HX6.out 1).trans rfl; have hx2 := (bC HX6.out 2).trans rfl; have hx3 := (bC HX6.out 3).trans rfl; cases ft with
 | true =>
  rw [if_pos rfl] at H
  by_cases hcc : 0 ≤ fi ∧ fi < (l0_2.length : Int)
  case neg => rw [if_neg hcc] at H; cases H
  rw [if_pos hcc] at H; simp only [Option.some.injEq, Prod.mk.injEq] at H; obtain ⟨rfl, rfl, rfl, rfl⟩ := H; obtain ⟨gv, cv, ev, hgv1, hgv2, hgv3⟩ := Kd.R_form HV6.out (by omega); injection ev with e1 e2 e3
  subst e1 e3; obtain ⟨vcs, hgv3⟩ := hgv3; have HGV := A0k hgv1; have HFC := A0k hcc; have p1 := eq_true hcc.1; have p2 := eq_true hcc.2; have p3 : decide (0 ≤ fi) = true := decide_eq_true hcc.1; have p4 : decide (fi < (l0_2.length : Int)) = true := decide_eq_true hcc.2; clear hcc hgv1 hgv2 hgv3 e2
  go_wp2_with (first
   | (go_at_call 52; (with_reducible refine (page_Find.calls k a0_0 A0_1 c0_1 l0_1 A0_2 c0_2 l0_2 A0_3 c0_3 l0_3 a1 fi true _ (HR1.out _ HB6.out) HC1.out (HR2.out _ HB6.out) HC2.out (HR3.out _ HB6.out) HC3.out HFI.out).mono ?_); rintro e_ w7 ⟨rfl, hb7⟩; have HB7 := A0k (pS HB6.out hb7); have HZ7 := A0k (bB HZ6.out hb7); have HG7 := A0k (bB HG6.out hb7); have HK7 := A0k (Kd.R_below HK6.out hb7); have HV7 := A0k (Kd.R_below HV6.out hb7); have hy2 := (bC HG7.out 2).trans rfl; have HCL := A0k (Kd.R_celln ByteArray.empty HV7.out fi HFC.out.1 HFC.out.2); have hcl := HCL.out.1; have hcf := HCL.out.2; clear hb7)
   | ((with_reducible refine gate_store (t := 9) (p := 30) rfl ?_); refine store_event (t := 9) (p := 30) (v := ?vo_) (w1 := w7.setCell ⟨gv, fi.toNat, none⟩ (.string a2)) ?hg ?ho ?hn ?hr ?_; (case ho => rfl); (case hg => rfl); (case hn => rfl); (case hr => exact z100); intro w8 hw; obtain ⟨hv8, hg8⟩ := Kd.R_putg HV7.out fi a2; rw [← hw] at hv8 hg8; have HV8 := A0k hv8; have HK8 := A0k (Kd.R_grown HK7.out hg8 (fun k_ hk_ => some_ne (fun e_ => by have h1 := HV7.out.1 gv (by simp [Value.ownBlock]); simp only at h1 hk_; omega))); have HG8 := A0k (blk_gr HG7.out hg8 (Kd.R_ne HV7.out HG7.out (by decide))); have HZ8 := A0k (blk_gr HZ7.out hg8 (Kd.R_ne HV7.out HZ7.out (by decide))); have HB8 := A0k (HB7.out.grown hg8 HB7.out.size (Kd.R_base HV7.out)); have hz0 := (bC HG8.out 0).trans rfl; have hz1 := (bC HG8.out 1).trans rfl; have hz2 := (bC HG8.out 2).trans rfl; have hz3 := (bC HG8.out 3).trans rfl; clear hw hv8 hg8 hcl hcf hy2)
   | ((with_reducible refine gate_store (t := 69) (p := 6) rfl ?_); refine store_event (t := 69) (p := 6) (v := ?vp_) (w1 := (((w8.setCell ⟨gz, 0, none⟩ (.int .i64 a0_0)).setCell ⟨gz, 1, none⟩ (.slice A4 l0_1.length c4)).setCell ⟨gz, 2, none⟩ (.slice (some ⟨gv, 0, none⟩) l0_2.length c7)).setCell ⟨gz, 3, none⟩ (.slice none 0 0)) ?hg2 ?ho2 ?hn2 ?hr2 ?_; (case ho2 => rfl); (case hg2 => rfl); (case hn2 => rfl); (case hr2 => (have hq0 := (bC HZ8.out 0).trans rfl; have hq1 := (bC HZ8.out 1).trans rfl; have hq2 := (bC HZ8.out 2).trans rfl; have hq3 := (bC HZ8.out 3).trans rfl; have hf0 := bF HZ8.out 0; have hf1 := bF HZ8.out 1; have hf2 := bF HZ8.out 2; have hf3 := bF HZ8.out 3; first | (go_simp; done) | (go_simp; rfl))); intro w9 hw; have hg9 := gr_four (W := w8) (g := gz) (.int .i64 a0_0) (.slice A4 l0_1.length c4) (.slice (some ⟨gv, 0, none⟩) l0_2.length c7) (.slice none 0 0); have hs9 := set_four (x := .int .i64 a0_0) (y := .slice A4 l0_1.length c4) (z := .slice (some ⟨gv, 0, none⟩) l0_2.length c7) (u := .slice none 0 0) HZ8.out; rw [← hw] at hg9 hs9; have HZ9 := A0k hs9; have HK9 := A0k (Kd.R_blk HK8.out HZ8.out (by decide) hg9); have HV9 := A0k (Kd.R_blk HV8.out HZ8.out (by decide) hg9); have HB9 := A0k (HB8.out.grown hg9 HB8.out.size (fun k_ hk_ => by have h1 := HGZ.out; have h2 : k_ = gz := (by simpa using hk_.symm); omega)); clear hw hg9 hs9 hz0 hz1 hz2 hz3))
  refine bodyPost_ret (results_cell_row rfl _ _ gz 69 #[.int .i64 a0_0, .slice A4 l0_1.length c4, .slice (some ⟨gv, 0, none⟩) l0_2.length c7, .slice none 0 0] (0, 0) _ rfl HZ9.out Tryd.underlying69 rfl (by kernel_rfl)) rfl ?_; exact ⟨_, _, _, rfl, Kd.R_mono HK9.out (fun k_ hk_ => some_ne (fun e_ => by have h1 := HV9.out.1 gv (by simp [Value.ownBlock]); have e2 : k_ = gv := e_; simp only at h1 hk_; omega)), Kd.R_mono HV9.out (fun k_ hk_ e_ => by have h1 := HK9.out.1 k_ e_.symm; simp only at h1 hk_; omega), Kd.R_nil _ _ _ _ _, HB9.out⟩
 | false =>
  rw [if_neg (by decide)] at H
  by_cases hcc : 0 ≤ fi ∧ fi ≤ (l0_1.length : Int) ∧ fi ≤ (l0_2.length : Int)
  case neg => rw [if_neg hcc] at H; cases H
  rw [if_pos hcc] at H; simp only [Option.some.injEq, Prod.mk.injEq] at H; obtain ⟨rfl, h2, h3, rfl⟩ := H; obtain ⟨n, rfl⟩ := Int.eq_ofNat_of_zero_le hcc.1; have HFC := A0k (show n ≤ l0_1.length ∧ n ≤ l0_2.length by omega); clear hcc; have HL1 := A0k (show l0_1.take n ++ a1 :: l0_1.drop n = r2 from h2); have HL2 := A0k (show l0_2.take n ++ a2 :: l0_2.drop n = r3 from h3); clear h2 h3; go_wp2_with (go_at_call 52; (with_reducible refine (page_Find.calls k a0_0 A0_1 c0_1 l0_1 A0_2 c0_2 l0_2 A0_3 c0_3 l0_3 a1 (n : Int) false _ (HR1.out _ HB6.out) HC1.out (HR2.out _ HB6.out) HC2.out (HR3.out _ HB6.out) HC3.out HFI.out).mono ?_); rintro e_ w7 ⟨rfl, hb7⟩; have HB7 := A0k (pS HB6.out hb7); have HZ7 := A0k (bB HZ6.out hb7); have HG7 := A0k (bB HG6.out hb7); have HK7 := A0k (Kd.R_below HK6.out hb7); have HV7 := A0k (Kd.R_mono (Kd.R_bound (Kd.R_below HV6.out hb7)) (fun _ hk_ => (⟨hk_.1, hk_.2.2.1⟩ : m7 ≤ _ ∧ _ < w7.heap.size))); have HM7 := A0k (Nat.le_trans HM6.out hb7.size); clear hb7)
  clear hx0 hx1 hx2 hx3; refine start_ (n := 16) (S := fun w' => w'.cell? ⟨g9, 1, none⟩ = some (.slice A4 l0_1.length c4) ∧ w'.cell? ⟨g9, 2, none⟩ = some (.slice A7 l0_2.length c7)) (ds := [13, 15]) #[F,F,F,F,F,F,F,F,F,F,F,F,F,F,F,F] (by kernel_rfl) rfl rfl ⟨(bC (bD HG7.out) 1).trans rfl, (bC (bD HG7.out) 2).trans rfl⟩ (fun hHeld => ?_); refine zp 0 32 #[T,F,F,F,F,F,F,F,F,F,F,F,F,F,F,F] ?_
  refine zp 2 34 #[T,F,T,F,F,F,F,F,F,F,F,F,F,F,F,F] ?_
  refine zp 3 35 #[T,F,T,T,F,F,F,F,F,F,F,F,F,F,F,F] ?_
  refine zp 6 38 #[T,F,T,T,F,F,T,F,F,F,F,F,F,F,F,F] ?_
  refine zp 8 40 #[T,F,T,T,F,F,T,F,T,F,F,F,F,F,F,F] ?_
  refine zp 9 41 #[T,F,T,T,F,F,T,F,T,T,F,F,F,F,F,F] ?_
  refine zt2 1 33 #[T,T,T,T,F,F,T,F,T,T,F,F,F,F,F,F] hHeld ?_; refine zt2 7 39 #[T,T,T,T,F,F,T,T,T,T,F,F,F,F,F,F] hHeld ?_; refine join_ (σ := Nat × Option Addr × Nat × Nat × Option Addr × Nat × Nat) 3 #[T,T,T,T,T,T,T,T,T,T,T,T,T,F,F,F] (fun s => [(36, .slice (some ⟨s.1, 0, none⟩) 1 1), (37, .slice s.2.1 r2.length s.2.2.1), (42, .slice (some ⟨s.2.2.2.1, 0, none⟩) 1 1), (43, .slice s.2.2.2.2.1 r3.length s.2.2.2.2.2.1), (44, .pointer (some ⟨g9, 1, none⟩))]) (fun s w' => (w'.cell? ⟨g9, 1, none⟩ = some (.slice A4 l0_1.length c4) ∧ w'.cell? ⟨g9, 2, none⟩ = some (.slice A7 l0_2.length c7)) ∧ Aside0 (Below w.heap.size w w') ∧ Aside0 (w'.heap[g9]? = some (.cells #[.int .i64 a0_0, .slice A4 l0_1.length c4, .slice A7 l0_2.length c7, .slice none 0 0] 69 (0, 0))) ∧ Aside0 (w'.heap[gz]? = some (.cells #[.int .i64 0, .slice none 0 0, .slice none 0 0, .slice none 0 0] 69 (0, 0))) ∧ Aside0 (w7.heap.size ≤ w'.heap.size) ∧ Aside0 (Kd.R Kd.string 9 w' w.heap.size (fun k_ => (k_ < m7 ∨ w7.heap.size ≤ k_) ∧ k_ < s.2.2.2.2.2.2) (.slice s.2.1 r2.length s.2.2.1) r2) ∧ Aside0 (Kd.R Kd.string 9 w' w.heap.size (fun k_ => (m7 ≤ k_ ∧ k_ < w7.heap.size) ∨ s.2.2.2.2.2.2 ≤ k_) (.slice s.2.2.2.2.1 r3.length s.2.2.2.2.2.1) r3) ∧ Aside0 (w'.heap[s.1]? = some (.cells #[.string a1] 9 (0, 0))) ∧ Aside0 (w7.heap.size ≤ s.1) ∧ Aside0 (w'.heap[s.2.2.2.1]? = some (.cells #[.string a2] 9 (0, 0))) ∧ Aside0 (w7.heap.size ≤ s.2.2.2.1)) ?_ ?_; rotate_left
  ·intro hJ4_5_10_11; refine join_ (σ := Nat × Option Addr × Nat × Nat) 4 #[T,T,T,T,T,T,T,T,T,T,T,F,T,F,F,F] (fun s => [(36, .slice (some ⟨s.1, 0, none⟩) 1 1), (37, .slice s.2.1 r2.length s.2.2.1), (42, .slice (some ⟨s.2.2.2, 0, none⟩) 1 1), (44, .pointer (some ⟨g9, 1, none⟩))]) (fun s w' => (w'.cell? ⟨g9, 1, none⟩ = some (.slice A4 l0_1.length c4) ∧ w'.cell? ⟨g9, 2, none⟩ = some (.slice A7 l0_2.length c7)) ∧ Aside0 (Below w.heap.size w w') ∧ Aside0 (w'.heap[g9]? = some (.cells #[.int .i64 a0_0, .slice A4 l0_1.length c4, .slice A7 l0_2.length c7, .slice none 0 0] 69 (0, 0))) ∧ Aside0 (w'.heap[gz]? = some (.cells #[.int .i64 0, .slice none 0 0, .slice none 0 0, .slice none 0 0] 69 (0, 0))) ∧ Aside0 (w7.heap.size ≤ w'.heap.size) ∧ Aside0 (Kd.R Kd.string 9 w' w.heap.size (fun k_ => k_ < m7 ∨ w7.heap.size ≤ k_) (.slice s.2.1 r2.length s.2.2.1) r2) ∧ Aside0 (Kd.R Kd.string 9 w' w.heap.size (fun k_ => m7 ≤ k_ ∧ k_ < w7.heap.size) (.slice A7 l0_2.length c7) l0_2) ∧ Aside0 (w'.heap[s.1]? = some (.cells #[.string a1] 9 (0, 0))) ∧ Aside0 (w7.heap.size ≤ s.1) ∧ Aside0 (w'.heap[s.2.2.2]? = some (.cells #[.string a2] 9 (0, 0))) ∧ Aside0 (w7.heap.size ≤ s.2.2.2)) ?_ ?_; rotate_left
   ·intro hJ4_5_10; refine join_ (σ := Nat × Option Addr × Nat) 5 #[T,T,T,T,T,T,T,T,T,T,F,F,T,F,F,F] (fun s => [(36, .slice (some ⟨s.1, 0, none⟩) 1 1), (37, .slice s.2.1 r2.length s.2.2), (44, .pointer (some ⟨g9, 1, none⟩))]) (fun s w' => (w'.cell? ⟨g9, 1, none⟩ = some (.slice A4 l0_1.length c4) ∧ w'.cell? ⟨g9, 2, none⟩ = some (.slice A7 l0_2.length c7)) ∧ Aside0 (Below w.heap.size w w') ∧ Aside0 (w'.heap[g9]? = some (.cells #[.int .i64 a0_0, .slice A4 l0_1.length c4, .slice A7 l0_2.length c7, .slice none 0 0] 69 (0, 0))) ∧ Aside0 (w'.heap[gz]? = some (.cells #[.int .i64 0, .slice none 0 0, .slice none 0 0, .slice none 0 0] 69 (0, 0))) ∧ Aside0 (w7.heap.size ≤ w'.heap.size) ∧ Aside0 (Kd.R Kd.string 9 w' w.heap.size (fun k_ => k_ < m7 ∨ w7.heap.size ≤ k_) (.slice s.2.1 r2.length s.2.2) r2) ∧ Aside0 (Kd.R Kd.string 9 w' w.heap.size (fun k_ => m7 ≤ k_ ∧ k_ < w7.heap.size) (.slice A7 l0_2.length c7) l0_2) ∧ Aside0 (w'.heap[s.1]? = some (.cells #[.string a1] 9 (0, 0))) ∧ Aside0 (w7.heap.size ≤ s.1)) ?_ ?_; rotate_left
    ·intro hJ4_5; refine join_ (σ := Nat × Nat) 6 #[T,T,T,T,T,F,T,T,T,T,T,F,F,F,F,F] (fun s => [(36, .slice (some ⟨s.1, 0, none⟩) 1 1), (42, .slice (some ⟨s.2, 0, none⟩) 1 1)]) (fun s w' => (w'.cell? ⟨g9, 1, none⟩ = some (.slice A4 l0_1.length c4) ∧ w'.cell? ⟨g9, 2, none⟩ = some (.slice A7 l0_2.length c7)) ∧ Aside0 (Below w.heap.size w w') ∧ Aside0 (w'.heap[g9]? = some (.cells #[.int .i64 a0_0, .slice A4 l0_1.length c4, .slice A7 l0_2.length c7, .slice none 0 0] 69 (0, 0))) ∧ Aside0 (w'.heap[gz]? = some (.cells #[.int .i64 0, .slice none 0 0, .slice none 0 0, .slice none 0 0] 69 (0, 0))) ∧ Aside0 (w7.heap.size ≤ w'.heap.size) ∧ Aside0 (Kd.R Kd.string 9 w' w.heap.size (fun k_ => k_ < m7) (.slice A4 l0_1.length c4) l0_1) ∧ Aside0 (Kd.R Kd.string 9 w' w.heap.size (fun k_ => m7 ≤ k_ ∧ k_ < w7.heap.size) (.slice A7 l0_2.length c7) l0_2) ∧ Aside0 (w'.heap[s.1]? = some (.cells #[.string a1] 9 (0, 0))) ∧ Aside0 (w7.heap.size ≤ s.1) ∧ Aside0 (w'.heap[s.2]? = some (.cells #[.string a2] 9 (0, 0))) ∧ Aside0 (w7.heap.size ≤ s.2)) ?_ ?_; rotate_left
     ·intro hJ4_10; refine join_ (σ := Nat) 7 #[T,T,T,T,T,F,T,T,T,T,F,F,F,F,F,F] (fun s => [(36, .slice (some ⟨s, 0, none⟩) 1 1)]) (fun s w' => (w'.cell? ⟨g9, 1, none⟩ = some (.slice A4 l0_1.length c4) ∧ w'.cell? ⟨g9, 2, none⟩ = some (.slice A7 l0_2.length c7)) ∧ Aside0 (Below w.heap.size w w') ∧ Aside0 (w'.heap[g9]? = some (.cells #[.int .i64 a0_0, .slice A4 l0_1.length c4, .slice A7 l0_2.length c7, .slice none 0 0] 69 (0, 0))) ∧ Aside0 (w'.heap[gz]? = some (.cells #[.int .i64 0, .slice none 0 0, .slice none 0 0, .slice none 0 0] 69 (0, 0))) ∧ Aside0 (w7.heap.size ≤ w'.heap.size) ∧ Aside0 (Kd.R Kd.string 9 w' w.heap.size (fun k_ => k_ < m7) (.slice A4 l0_1.length c4) l0_1) ∧ Aside0 (Kd.R Kd.string 9 w' w.heap.size (fun k_ => m7 ≤ k_ ∧ k_ < w7.heap.size) (.slice A7 l0_2.length c7) l0_2) ∧ Aside0 (w'.heap[s]? = some (.cells #[.string a1] 9 (0, 0))) ∧ Aside0 (w7.heap.size ≤ s)) ?_ ?_; rotate_left
      ·intro hJ4; refine join_ (σ := Nat) 7 #[T,T,T,T,F,F,T,T,T,T,T,F,F,F,F,F] (fun s => [(42, .slice (some ⟨s, 0, none⟩) 1 1)]) (fun s w' => (w'.cell? ⟨g9, 1, none⟩ = some (.slice A4 l0_1.length c4) ∧ w'.cell? ⟨g9, 2, none⟩ = some (.slice A7 l0_2.length c7)) ∧ Aside0 (Below w.heap.size w w') ∧ Aside0 (w'.heap[g9]? = some (.cells #[.int .i64 a0_0, .slice A4 l0_1.length c4, .slice A7 l0_2.length c7, .slice none 0 0] 69 (0, 0))) ∧ Aside0 (w'.heap[gz]? = some (.cells #[.int .i64 0, .slice none 0 0, .slice none 0 0, .slice none 0 0] 69 (0, 0))) ∧ Aside0 (w7.heap.size ≤ w'.heap.size) ∧ Aside0 (Kd.R Kd.string 9 w' w.heap.size (fun k_ => k_ < m7) (.slice A4 l0_1.length c4) l0_1) ∧ Aside0 (Kd.R Kd.string 9 w' w.heap.size (fun k_ => m7 ≤ k_ ∧ k_ < w7.heap.size) (.slice A7 l0_2.length c7) l0_2) ∧ Aside0 (w'.heap[s]? = some (.cells #[.string a2] 9 (0, 0))) ∧ Aside0 (w7.heap.size ≤ s)) ?_ ?_; rotate_left
       ·intro hJ10; refine two_ (i := 4) (j := 10) (Ni := some 36) (Nj := some 42) #[T,T,T,T,T,F,T,T,T,T,F,F,F,F,F,F] #[T,T,T,T,F,F,T,T,T,T,T,F,F,F,F,F] rfl rfl rfl rfl (by kernel_rfl) (by decide) (by decide) (fun K hK => ?_) (fun K hK => ?_)
        ·skip; refine value_ (w1 := ?_) (v := ?_) (by rfl) rfl ?_ ?_; rotate_left 2
         ·go_simp
          constructor
          ·rfl
          ·rfl
         have HBN := A0k (pS HB7.out.drew (pA (Below.refl _ _) (.cells #[.string a1] 9))); have HGN := A0k (bB (bD HG7.out) (pA (Below.refl _ _) (.cells #[.string a1] 9))); have HZN := A0k (bB (bD HZ7.out) (pA (Below.refl _ _) (.cells #[.string a1] 9))); have HNN := A0k (Nat.le_trans (show w7.heap.size ≤ w7.drew.heap.size from Nat.le_refl _) (Below.size (pA (Below.refl _ _) (.cells #[.string a1] 9)))); have HKN := A0k (Kd.R_below (Kd.R_drew HK7.out) (pA (Below.refl _ _) (.cells #[.string a1] 9))); have HVN := A0k (Kd.R_below (Kd.R_drew HV7.out) (pA (Below.refl _ _) (.cells #[.string a1] 9))); have HL4N := A0k (heap_alloc_new w7.drew (.cells #[.string a1] 9)); have HLN4N := A0k ((show w7.heap.size ≤ w7.drew.heap.size from Nat.le_refl _)); refine hK.out _ _ ⟨bq HGN.out 1, bq HGN.out 2⟩ (fun hHeld => ?_); clear hK K; refine zn ?_
         exact norm_ z26 (hJ4 w7.drew.heap.size _ ⟨hHeld, HBN, HGN, HZN, HNN, HKN, HVN, HL4N, HLN4N⟩)
        ·skip; refine value_ (w1 := ?_) (v := ?_) (by rfl) rfl ?_ ?_; rotate_left 2
         ·go_simp
          constructor
          ·rfl
          ·rfl
         have HBN := A0k (pS HB7.out.drew (pA (Below.refl _ _) (.cells #[.string a2] 9))); have HGN := A0k (bB (bD HG7.out) (pA (Below.refl _ _) (.cells #[.string a2] 9))); have HZN := A0k (bB (bD HZ7.out) (pA (Below.refl _ _) (.cells #[.string a2] 9))); have HNN := A0k (Nat.le_trans (show w7.heap.size ≤ w7.drew.heap.size from Nat.le_refl _) (Below.size (pA (Below.refl _ _) (.cells #[.string a2] 9)))); have HKN := A0k (Kd.R_below (Kd.R_drew HK7.out) (pA (Below.refl _ _) (.cells #[.string a2] 9))); have HVN := A0k (Kd.R_below (Kd.R_drew HV7.out) (pA (Below.refl _ _) (.cells #[.string a2] 9))); have HL10N := A0k (heap_alloc_new w7.drew (.cells #[.string a2] 9)); have HLN10N := A0k ((show w7.heap.size ≤ w7.drew.heap.size from Nat.le_refl _)); refine hK.out _ _ ⟨bq HGN.out 1, bq HGN.out 2⟩ (fun hHeld => ?_); clear hK K; refine zn ?_
         exact norm_ z26 (hJ10 w7.drew.heap.size _ ⟨hHeld, HBN, HGN, HZN, HNN, HKN, HVN, HL10N, HLN10N⟩)
       ·skip; rintro b10 wJ10 ⟨hHeld, HBJ, HGJ, HZJ, HNJ, HKJ, HVJ, HL10J, HLN10J⟩
        try dsimp only at HL10J
        try dsimp only at HLN10J
        refine zm ?_
        refine zo 4 36 #[T,T,T,T,T,F,T,T,T,T,T,F,F,F,F,F] (fun K hK => ?_); refine value_ (w1 := ?_) (v := ?_) (by rfl) rfl ?_ ?_; rotate_left 2
        ·go_simp
         constructor
         ·rfl
         ·rfl
        have HBN := A0k (pS HBJ.out (pA (Below.refl _ _) (.cells #[.string a1] 9))); have HGN := A0k (bB HGJ.out (pA (Below.refl _ _) (.cells #[.string a1] 9))); have HZN := A0k (bB HZJ.out (pA (Below.refl _ _) (.cells #[.string a1] 9))); have HNN := A0k (Nat.le_trans HNJ.out (Below.size (pA (Below.refl _ _) (.cells #[.string a1] 9)))); have HKN := A0k (Kd.R_below HKJ.out (pA (Below.refl _ _) (.cells #[.string a1] 9))); have HVN := A0k (Kd.R_below HVJ.out (pA (Below.refl _ _) (.cells #[.string a1] 9))); have HL4N := A0k (heap_alloc_new wJ10 (.cells #[.string a1] 9)); have HLN4N := A0k (HNJ.out); have HL10N := A0k (bB HL10J.out (pA (Below.refl _ _) (.cells #[.string a1] 9))); have HLN10N := A0k (HLN10J.out); refine hK.out _ _ ⟨bq HGN.out 1, bq HGN.out 2⟩ (fun hHeld => ?_); clear hK K; refine zn ?_
        exact norm_ z26 (hJ4_10 (wJ10.heap.size, b10) _ ⟨hHeld, HBN, HGN, HZN, HNN, HKN, HVN, HL4N, HLN4N, HL10N, HLN10N⟩)
      ·skip; rintro b4 wJ4 ⟨hHeld, HBJ, HGJ, HZJ, HNJ, HKJ, HVJ, HL4J, HLN4J⟩
       try dsimp only at HL4J
       try dsimp only at HLN4J
       refine zm ?_
       refine two_ (i := 5) (j := 10) (Ni := some 37) (Nj := some 42) #[T,T,T,T,T,T,T,T,T,T,F,F,F,F,F,F] #[T,T,T,T,T,F,T,T,T,T,T,F,F,F,F,F] rfl rfl rfl rfl (by kernel_rfl) (by decide) (by decide) (fun K hK => ?_) (fun K hK => ?_)
       ·skip; refine goes_ Tryd.func60 (by kernel_rfl) rfl #[.slice A4 l0_1.length c4, .int .i64 (n : Int), .slice (some ⟨b4, 0, none⟩) 1 1] (by rfl) rfl rfl z70 ?_
        with_reducible refine (ins_string w.heap.size (fun k_ => k_ < m7) A4 c4 l0_1.length n l0_1 a1 b4 _ HKJ.out rfl (Below.size HBJ.out) HFC.out.1 HLE.out.1 HL4J.out (fun e_ => by have h1_ := Kd.R_ok HKJ.out b4 e_; have h2_ := HLN4J.out; have h3_ := HM7.out; omega)).mono ?_
        rintro e_ wN ⟨⟨v_, rfl, hr_⟩, hg_, hs_⟩; refine ⟨_, rfl, ?_⟩; rw [HL1.out] at hr_; obtain ⟨A_, c_, rfl⟩ := Kd.R_slice hr_; have HBN := A0k (Below.grown HBJ.out hg_ (Below.size HBJ.out) (Kd.R_base HKJ.out)); have HGN := A0k (blk_gr HGJ.out hg_ (Kd.R_ne HKJ.out HGJ.out (by decide))); have HZN := A0k (blk_gr HZJ.out hg_ (Kd.R_ne HKJ.out HZJ.out (by decide))); have HNN := A0k (Nat.le_trans HNJ.out hs_); have HKN := A0k (Kd.R_mono hr_ (fun _ hk_ => hk_.imp id (Nat.le_trans HNJ.out))); have HVN := A0k (Kd.R_grown HVJ.out hg_ (fun k_ hk_ e_ => by have h1_ := Kd.R_ok HKJ.out k_ e_.symm; (try simp only at hk_); omega)); have HL4N := A0k (blk_gr HL4J.out hg_ (fun e_ => by have h1_ := Kd.R_ok HKJ.out b4 e_.symm; have h2_ := HLN4J.out; have h3_ := HM7.out; omega)); have HLN4N := A0k (HLN4J.out); refine hK.out _ _ ⟨bq HGN.out 1, bq HGN.out 2⟩ (fun hHeld => ?_); clear hK K; refine zn ?_
        refine zp 12 44 #[T,T,T,T,T,T,T,T,T,T,F,F,T,F,F,F] ?_
        exact norm_ z26 (hJ4_5 (b4, A_, c_) _ ⟨hHeld, HBN, HGN, HZN, HNN, HKN, HVN, HL4N, HLN4N⟩)
       ·skip; refine value_ (w1 := ?_) (v := ?_) (by rfl) rfl ?_ ?_; rotate_left 2
        ·go_simp
         constructor
         ·rfl
         ·rfl
        have HBN := A0k (pS HBJ.out (pA (Below.refl _ _) (.cells #[.string a2] 9))); have HGN := A0k (bB HGJ.out (pA (Below.refl _ _) (.cells #[.string a2] 9))); have HZN := A0k (bB HZJ.out (pA (Below.refl _ _) (.cells #[.string a2] 9))); have HNN := A0k (Nat.le_trans HNJ.out (Below.size (pA (Below.refl _ _) (.cells #[.string a2] 9)))); have HKN := A0k (Kd.R_below HKJ.out (pA (Below.refl _ _) (.cells #[.string a2] 9))); have HVN := A0k (Kd.R_below HVJ.out (pA (Below.refl _ _) (.cells #[.string a2] 9))); have HL4N := A0k (bB HL4J.out (pA (Below.refl _ _) (.cells #[.string a2] 9))); have HLN4N := A0k (HLN4J.out); have HL10N := A0k (heap_alloc_new wJ4 (.cells #[.string a2] 9)); have HLN10N := A0k (HNJ.out); refine hK.out _ _ ⟨bq HGN.out 1, bq HGN.out 2⟩ (fun hHeld => ?_); clear hK K; refine zn ?_
        exact norm_ z26 (hJ4_10 (b4, wJ4.heap.size) _ ⟨hHeld, HBN, HGN, HZN, HNN, HKN, HVN, HL4N, HLN4N, HL10N, HLN10N⟩)
     ·skip; rintro ⟨b4, b10⟩ wJ4_10 ⟨hHeld, HBJ, HGJ, HZJ, HNJ, HKJ, HVJ, HL4J, HLN4J, HL10J, HLN10J⟩
      try dsimp only at HL4J
      try dsimp only at HLN4J
      try dsimp only at HL10J
      try dsimp only at HLN10J
      refine zm ?_
      refine zo 5 37 #[T,T,T,T,T,T,T,T,T,T,T,F,F,F,F,F] (fun K hK => ?_); refine goes_ Tryd.func60 (by kernel_rfl) rfl #[.slice A4 l0_1.length c4, .int .i64 (n : Int), .slice (some ⟨b4, 0, none⟩) 1 1] (by rfl) rfl rfl z70 ?_
      with_reducible refine (ins_string w.heap.size (fun k_ => k_ < m7) A4 c4 l0_1.length n l0_1 a1 b4 _ HKJ.out rfl (Below.size HBJ.out) HFC.out.1 HLE.out.1 HL4J.out (fun e_ => by have h1_ := Kd.R_ok HKJ.out b4 e_; have h2_ := HLN4J.out; have h3_ := HM7.out; omega)).mono ?_
      rintro e_ wN ⟨⟨v_, rfl, hr_⟩, hg_, hs_⟩; refine ⟨_, rfl, ?_⟩; rw [HL1.out] at hr_; obtain ⟨A_, c_, rfl⟩ := Kd.R_slice hr_; have HBN := A0k (Below.grown HBJ.out hg_ (Below.size HBJ.out) (Kd.R_base HKJ.out)); have HGN := A0k (blk_gr HGJ.out hg_ (Kd.R_ne HKJ.out HGJ.out (by decide))); have HZN := A0k (blk_gr HZJ.out hg_ (Kd.R_ne HKJ.out HZJ.out (by decide))); have HNN := A0k (Nat.le_trans HNJ.out hs_); have HKN := A0k (Kd.R_mono hr_ (fun _ hk_ => hk_.imp id (Nat.le_trans HNJ.out))); have HVN := A0k (Kd.R_grown HVJ.out hg_ (fun k_ hk_ e_ => by have h1_ := Kd.R_ok HKJ.out k_ e_.symm; (try simp only at hk_); omega)); have HL4N := A0k (blk_gr HL4J.out hg_ (fun e_ => by have h1_ := Kd.R_ok HKJ.out b4 e_.symm; have h2_ := HLN4J.out; have h3_ := HM7.out; omega)); have HLN4N := A0k (HLN4J.out); have HL10N := A0k (blk_gr HL10J.out hg_ (fun e_ => by have h1_ := Kd.R_ok HKJ.out b10 e_.symm; have h2_ := HLN10J.out; have h3_ := HM7.out; omega)); have HLN10N := A0k (HLN10J.out); refine hK.out _ _ ⟨bq HGN.out 1, bq HGN.out 2⟩ (fun hHeld => ?_); clear hK K; refine zn ?_
      refine zp 12 44 #[T,T,T,T,T,T,T,T,T,T,T,F,T,F,F,F] ?_
      exact norm_ z26 (hJ4_5_10 (b4, A_, c_, b10) _ ⟨hHeld, HBN, HGN, HZN, HNN, HKN, HVN, HL4N, HLN4N, HL10N, HLN10N⟩)
    ·skip; rintro ⟨b4, A5, c5⟩ wJ4_5 ⟨hHeld, HBJ, HGJ, HZJ, HNJ, HKJ, HVJ, HL4J, HLN4J⟩
     try dsimp only at HKJ
     try dsimp only at HL4J
     try dsimp only at HLN4J
     refine zm ?_
     refine zo 10 42 #[T,T,T,T,T,T,T,T,T,T,T,F,T,F,F,F] (fun K hK => ?_); refine value_ (w1 := ?_) (v := ?_) (by rfl) rfl ?_ ?_; rotate_left 2
     ·go_simp
      constructor
      ·rfl
      ·rfl
     have HBN := A0k (pS HBJ.out (pA (Below.refl _ _) (.cells #[.string a2] 9))); have HGN := A0k (bB HGJ.out (pA (Below.refl _ _) (.cells #[.string a2] 9))); have HZN := A0k (bB HZJ.out (pA (Below.refl _ _) (.cells #[.string a2] 9))); have HNN := A0k (Nat.le_trans HNJ.out (Below.size (pA (Below.refl _ _) (.cells #[.string a2] 9)))); have HKN := A0k (Kd.R_below HKJ.out (pA (Below.refl _ _) (.cells #[.string a2] 9))); have HVN := A0k (Kd.R_below HVJ.out (pA (Below.refl _ _) (.cells #[.string a2] 9))); have HL4N := A0k (bB HL4J.out (pA (Below.refl _ _) (.cells #[.string a2] 9))); have HLN4N := A0k (HLN4J.out); have HL10N := A0k (heap_alloc_new wJ4_5 (.cells #[.string a2] 9)); have HLN10N := A0k (HNJ.out); refine hK.out _ _ ⟨bq HGN.out 1, bq HGN.out 2⟩ (fun hHeld => ?_); clear hK K; refine zn ?_
     exact norm_ z26 (hJ4_5_10 (b4, A5, c5, wJ4_5.heap.size) _ ⟨hHeld, HBN, HGN, HZN, HNN, HKN, HVN, HL4N, HLN4N, HL10N, HLN10N⟩)
   ·skip; rintro ⟨b4, A5, c5, b10⟩ wJ4_5_10 ⟨hHeld, HBJ, HGJ, HZJ, HNJ, HKJ, HVJ, HL4J, HLN4J, HL10J, HLN10J⟩
    try dsimp only at HKJ
    try dsimp only at HL4J
    try dsimp only at HLN4J
    try dsimp only at HL10J
    try dsimp only at HLN10J
    refine zm ?_
    refine zo 11 43 #[T,T,T,T,T,T,T,T,T,T,T,T,T,F,F,F] (fun K hK => ?_); refine goes_ Tryd.func60 (by kernel_rfl) rfl #[.slice A7 l0_2.length c7, .int .i64 (n : Int), .slice (some ⟨b10, 0, none⟩) 1 1] (by rfl) rfl rfl z70 ?_
    with_reducible refine (ins_string w.heap.size (fun k_ => m7 ≤ k_ ∧ k_ < w7.heap.size) A7 c7 l0_2.length n l0_2 a2 b10 _ HVJ.out rfl (Below.size HBJ.out) HFC.out.2 HLE.out.2 HL10J.out (fun e_ => by have h1_ := Kd.R_ok HVJ.out b10 e_; have h2_ := HLN10J.out; omega)).mono ?_
    rintro e_ wN ⟨⟨v_, rfl, hr_⟩, hg_, hs_⟩; refine ⟨_, rfl, ?_⟩; rw [HL2.out] at hr_; obtain ⟨A_, c_, rfl⟩ := Kd.R_slice hr_; have HBN := A0k (Below.grown HBJ.out hg_ (Below.size HBJ.out) (Kd.R_base HVJ.out)); have HGN := A0k (blk_gr HGJ.out hg_ (Kd.R_ne HVJ.out HGJ.out (by decide))); have HZN := A0k (blk_gr HZJ.out hg_ (Kd.R_ne HVJ.out HZJ.out (by decide))); have HNN := A0k (Nat.le_trans HNJ.out hs_); have HKN := A0k (Kd.R_grown (Kd.R_mono (Kd.R_bound HKJ.out) (fun k_ hk_ => (⟨hk_.1, hk_.2.2.1⟩ : (k_ < m7 ∨ w7.heap.size ≤ k_) ∧ k_ < wJ4_5_10.heap.size))) hg_ (fun k_ hk_ e_ => by have h1_ := Kd.R_ok HVJ.out k_ e_.symm; (try simp only at hk_); omega)); have HVN := A0k (hr_); have HL4N := A0k (blk_gr HL4J.out hg_ (fun e_ => by have h1_ := Kd.R_ok HVJ.out b4 e_.symm; have h2_ := HLN4J.out; have h3_ := HM7.out; omega)); have HLN4N := A0k (HLN4J.out); have HL10N := A0k (blk_gr HL10J.out hg_ (fun e_ => by have h1_ := Kd.R_ok HVJ.out b10 e_.symm; have h2_ := HLN10J.out; have h3_ := HM7.out; omega)); have HLN10N := A0k (HLN10J.out); refine hK.out _ _ ⟨bq HGN.out 1, bq HGN.out 2⟩ (fun hHeld => ?_); clear hK K; refine zn ?_
    exact norm_ z26 (hJ4_5_10_11 (b4, A5, c5, b10, A_, c_, wJ4_5_10.heap.size) _ ⟨hHeld, HBN, HGN, HZN, HNN, HKN, HVN, HL4N, HLN4N, HL10N, HLN10N⟩)
  rintro ⟨b4, A5, c5, b10, A11, c11, s11⟩ w8 ⟨hHeld, HB, HG, HZ, HN, HK, HV, HL4, HLN4, HL10, HLN10⟩
  try dsimp only at HK
  try dsimp only at HV
  try dsimp only at HL4
  try dsimp only at HLN4
  try dsimp only at HL10
  try dsimp only at HLN10
  refine zm ?_
  refine last_ (i := 13) (N := none) #[T,T,T,T,T,T,T,T,T,T,T,T,T,T,F,F] rfl rfl (by kernel_rfl) (by decide) (fun K hK => ?_); have hg1 := (bC HG.out 1).trans rfl; have hg2 := (bC HG.out 2).trans rfl; have hf1 := bF HG.out 1; have hf2 := bF HG.out 2; refine skip_ (w1 := ?_) (by rfl) rfl ?_ ?_; rotate_left
  ·go_simp
   rfl
  refine hK.out _ _ ?_; clear hK K; refine zp 14 45 #[T,T,T,T,T,T,T,T,T,T,T,T,T,T,T,F] ?_
  refine last_ (i := 15) (N := none) #[T,T,T,T,T,T,T,T,T,T,T,T,T,T,T,T] rfl rfl (by kernel_rfl) (by decide) (fun K hK => ?_); refine skip_ (w1 := ?_) (by rfl) rfl ?_ ?_; rotate_left
  ·go_simp
   rfl
  refine hK.out _ _ ?_; clear hK K; refine done_ (by kernel_rfl) ?_; have hgr := gr_set (gr_set (gr_refl w8 (some g9)) 1 (.slice A5 r2.length c5)) 2 (.slice A11 r3.length c11); have HG9 := A0k (show ((w8.setCell ⟨g9, 1, none⟩ (.slice A5 r2.length c5)).setCell ⟨g9, 2, none⟩ (.slice A11 r3.length c11)).heap[g9]? = some (.cells #[.int .i64 a0_0, .slice A5 r2.length c5, .slice A11 r3.length c11, .slice none 0 0] 69 (0, 0)) from by have h1 := blk_set (blk_set HG.out 1 (.slice A5 r2.length c5)) 2 (.slice A11 r3.length c11); simpa using h1); have HZ9 := A0k (blk_gr HZ.out hgr (some_ne HNE.out.2)); have HK9 := A0k (Kd.R_blk HK.out HG.out (by decide) hgr); have HV9 := A0k (Kd.R_blk HV.out HG.out (by decide) hgr); have HB9 := A0k (HB.out.grown hgr HB.out.size (fun k_ hk_ => by have h1 := HGN.out; have h2 : k_ = g9 := (by simpa using hk_.symm); omega)); clear hgr HG HZ HK HV HB HN hg1 hg2 hf1 hf2
  (try clear hHeld)
  generalize (w8.setCell ⟨g9, 1, none⟩ (.slice A5 r2.length c5)).setCell ⟨g9, 2, none⟩ (.slice A11 r3.length c11) = w9 at *; have hz0 := (bC HG9.out 0).trans rfl; have hz1 := (bC HG9.out 1).trans rfl; have hz2 := (bC HG9.out 2).trans rfl; have hz3 := (bC HG9.out 3).trans rfl; have hq0 := (bC HZ9.out 0).trans rfl; have hq1 := (bC HZ9.out 1).trans rfl; have hq2 := (bC HZ9.out 2).trans rfl; have hq3 := (bC HZ9.out 3).trans rfl; have hf0 := bF HZ9.out 0; have hf1 := bF HZ9.out 1; have hf2 := bF HZ9.out 2; have hf3 := bF HZ9.out 3; have hg10 := A0k (gr_four (W := w9) (g := gz) (.int .i64 a0_0) (.slice A5 r2.length c5) (.slice A11 r3.length c11) (.slice none 0 0)); have HZ10 := A0k (set_four (x := .int .i64 a0_0) (y := .slice A5 r2.length c5) (z := .slice A11 r3.length c11) (u := .slice none 0 0) HZ9.out); have HK10 := A0k (Kd.R_blk HK9.out HZ9.out (by decide) hg10.out); have HV10 := A0k (Kd.R_blk HV9.out HZ9.out (by decide) hg10.out); have HB10 := A0k (HB9.out.grown hg10.out HB9.out.size (fun k_ hk_ => by have h1 := HGZ.out; have h2 : k_ = gz := (by simpa using hk_.symm); omega)); go_wp2_with fail
  refine bodyPost_ret (results_cell_row rfl _ _ gz 69 #[.int .i64 a0_0, .slice A5 r2.length c5, .slice A11 r3.length c11, .slice none 0 0] (0, 0) _ rfl HZ10.out Tryd.underlying69 rfl (by kernel_rfl)) rfl ?_; exact ⟨_, _, _, rfl, Kd.R_mono HK10.out (fun k_ hk_ e_ => by have h1 := Kd.R_ok HV10.out k_ e_.symm; (try simp only at hk_); omega), Kd.R_mono HV10.out (fun k_ hk_ e_ => by have h1 := Kd.R_ok HK10.out k_ e_.symm; (try simp only at hk_); omega), Kd.R_nil _ _ _ _ _, HB10.out⟩
end
section
open Bool renaming true → T, false → F

/-! ### mark_Open: function 68 -/
def mark_Open.j0 : Nat → ByteArray → Bool → Option (ByteArray × Option Int)
 | 0, _, _ => none
 | k + 1, x1, x24 => if x24 = true then (some ((⟨#[]⟩ : ByteArray), some 4)) else (if 508 ≤ (x1.size : Int) then (if 0 ≤ 508 then ((mark_sumOf.f k (x1.extract 0 508)).bind fun t128 => (if (x1.extract 508 x1.size).toList = t128.toList then (if 4 ≤ 508 then (some (x1.extract 4 508, none)) else (none)) else (some ((⟨#[]⟩ : ByteArray), some 5)))) else (none)) else (none))
def mark_Open.f (k : Nat) (a0 : Int) (a1 : ByteArray) : Option (ByteArray × Option Int) := if (a1.size : Int) = 512 then (if a0 < 1 then (mark_Open.j0 k a1 true) else (if a0 > 255 then (mark_Open.j0 k a1 true) else (if 0 ≤ 4 then (if 4 ≤ (a1.size : Int) then ((mark_head.f k a0).bind fun t127 => (mark_Open.j0 k a1 ((a1.extract 0 4).toList != t127.toList))) else (none)) else (none)))) else (mark_Open.j0 k a1 true)
def mark_Open.T1 : Bool × List (List Nat × List Nat) := (true, [([], []), ([0], [0]), ([1], [1]), ([2], [2]), ([3], [3]), ([4, 3], [3, 4]), ([3, 5], [3, 5]), ([6, 3], [6]), ([7], [7]), ([8, 7], [7, 8]), ([7, 9], [7, 9]), ([10, 7], [10]), ([11], [11]), ([12, 11], [11, 12]), ([11], [11]), ([14, 11, 11], [11, 14]), ([13, 15, 11], [11, 13, 15]), ([11, 16], [11, 16])])
def mark_Open.B1 : List Nat := [0, 1, 3, 7, 15, 31, 63, 127, 255, 511, 1023, 2047, 4095, 8191, 4095, 20479, 65535, 131071]
theorem mark_Open.tab1 : rtab .any (opsOf Tryd.f68 1) = mark_Open.T1 := by kernel_rfl
theorem mark_Open.bits1 : waitsOk mark_Open.T1.2 mark_Open.B1 = true := by kernel_rfl
def mark_Open.T4 : Bool × List (List Nat × List Nat) := (true, [([], []), ([], []), ([0, 1], [0, 1]), ([], []), ([], []), ([3, 4], [3, 4]), ([5], [5]), ([2, 6], [2, 6])])
def mark_Open.B4 : List Nat := [0, 0, 3, 0, 0, 24, 56, 127]
theorem mark_Open.tab4 : rtab .any (opsOf Tryd.f68 4) = mark_Open.T4 := by kernel_rfl
theorem mark_Open.bits4 : waitsOk mark_Open.T4.2 mark_Open.B4 = true := by kernel_rfl
open mark_Open renaming j0 → Wj0
set_option maxHeartbeats 8000000 in
set_option maxRecDepth 100000 in
theorem mark_Open.calls (k : Nat) (a0 : Int) (a1 : ByteArray) (r1 : ByteArray) (r2 : Option Int) (w : World) (hL_ : Laid w) (h : mark_Open.f k a0 a1 = some (r1, r2)) :
  Calls Tryd.prog 68 #[.int .i64 a0, .string a1] w fun e w' => e = .returned (.tuple #[.string r1, errW r2]) ∧ Below w.heap.size w w' := by
 have HL_ := A0k hL_; clear hL_; have hu27 := Tryd.underlying27; have hu36 := Tryd.underlying36; have HB := A0k (Below.refl w.heap.size w); have H : (if (a1.size : Int) = 512 then (if a0 < 1 then (Wj0 k a1 true) else (if a0 > 255 then (Wj0 k a1 true) else (if 0 ≤ 4 then (if 4 ≤ (a1.size : Int) then ((mark_head.f k a0).bind fun t127 => (Wj0 k a1 ((a1.extract 0 4).toList != t127.toList))) else (none)) else (none)))) else (Wj0 k a1 true)) = some (r1, r2) := h; clear h; have HC3 := A0k H; clear H; go_enter Tryd.func68, Tryd.ntmps68
 go_upto_region 1 with (fail)
 go_cut [24] (fun v24 wc => ∃ (kq : Nat) (x24_2 : Bool), v24 = .bool x24_2 ∧ Aside0 (Wj0 kq a1 x24_2 = some (r1, r2)) ∧ Aside0 (kq ≤ k) ∧ Aside0 (Below w.heap.size w wc))
 case first =>
  have H := HC3.out; clear HC3
  by_cases c4 : (a1.size : Int) = 512
  ·rw [if_pos c4] at H; have c4b0 : ((a1.size : Int) == 512) = true := beq_iff_eq.mpr c4; have c4b1 : ((a1.size : Int) != 512) = false := bne_eq_false_iff_eq.mpr c4; clear c4
   (first | rw [c4b0] | (simp only [i64_w, i32_w]; rw [c4b0]) | skip)
   by_cases c5 : a0 < 1
   ·rw [if_pos c5] at H; have c5b0 : decide (a0 < 1) = true := decide_eq_true c5; clear c5; have H' := A0k H; clear H
    try go_wp2
    have n0_ := A0k (pD HB.out); clear HB; have HB := n0_; clear n0_; refine start_ (n := 18) (S := fun w' => True) (ds := []) #[F,F,F,F,F,F,F,F,F,F,F,F,F,F,F,F,F,F] (by kernel_rfl) rfl rfl trivial (fun hHeld => ?_); refine with_tabW mark_Open.tab1 mark_Open.bits1 (fun HT_ HW_ => ?_); generalize w.drew = w6 at HB hHeld ⊢; refine zp 0 7 #[T,F,F,F,F,F,F,F,F,F,F,F,F,F,F,F,F,F] ?_
    refine zp 1 8 #[T,T,F,F,F,F,F,F,F,F,F,F,F,F,F,F,F,F] ?_
    refine zp 2 9 #[T,T,T,F,F,F,F,F,F,F,F,F,F,F,F,F,F,F] ?_
    refine zp 3 10 #[T,T,T,T,F,F,F,F,F,F,F,F,F,F,F,F,F,F] ?_
    refine zp 4 11 #[T,T,T,T,T,F,F,F,F,F,F,F,F,F,F,F,F,F] ?_
    refine zp 5 12 #[T,T,T,T,T,T,F,F,F,F,F,F,F,F,F,F,F,F] ?_
    refine zp 6 13 #[T,T,T,T,T,T,T,F,F,F,F,F,F,F,F,F,F,F] ?_
    refine zp 7 14 #[T,T,T,T,T,T,T,T,F,F,F,F,F,F,F,F,F,F] ?_
    refine zu 8 15 #[T,T,T,T,T,T,T,T,T,F,F,F,F,F,F,F,F,F] ?_
    refine zu 9 16 #[T,T,T,T,T,T,T,T,T,T,F,F,F,F,F,F,F,F] ?_
    refine zp 10 17 #[T,T,T,T,T,T,T,T,T,T,T,F,F,F,F,F,F,F] ?_
    refine zp 11 18 #[T,T,T,T,T,T,T,T,T,T,T,T,F,F,F,F,F,F] ?_
    refine zu 12 19 #[T,T,T,T,T,T,T,T,T,T,T,T,T,F,F,F,F,F] ?_
    refine zu 13 20 #[T,T,T,T,T,T,T,T,T,T,T,T,T,T,F,F,F,F] ?_
    refine zu 14 21 #[T,T,T,T,T,T,T,T,T,T,T,T,T,T,T,F,F,F] ?_
    refine zu 15 22 #[T,T,T,T,T,T,T,T,T,T,T,T,T,T,T,T,F,F] ?_
    refine zu 16 23 #[T,T,T,T,T,T,T,T,T,T,T,T,T,T,T,T,T,F] ?_
    refine zp 17 24 #[T,T,T,T,T,T,T,T,T,T,T,T,T,T,T,T,T,T] ?_
    refine done_ (done_of HT_.out (by kernel_rfl)) ?_
    try go_wp2
    go_meet
    case rel => exact ⟨_, (true), z41, H', ⟨z68⟩, ⟨z25⟩⟩
   ·rw [if_neg c5] at H; have c5b0 : decide (a0 < 1) = false := decide_eq_false c5; clear c5
    by_cases c7 : a0 > 255
    ·rw [if_pos c7] at H; have c7b0 : decide (255 < a0) = true := decide_eq_true c7; clear c7; have H' := A0k H; clear H
     try go_wp2
     have n0_ := A0k (pD HB.out); clear HB; have HB := n0_; clear n0_; refine start_ (n := 18) (S := fun w' => True) (ds := []) #[F,F,F,F,F,F,F,F,F,F,F,F,F,F,F,F,F,F] (by kernel_rfl) rfl rfl trivial (fun hHeld => ?_); refine with_tabW mark_Open.tab1 mark_Open.bits1 (fun HT_ HW_ => ?_); generalize w.drew = w8 at HB hHeld ⊢; refine zp 0 7 #[T,F,F,F,F,F,F,F,F,F,F,F,F,F,F,F,F,F] ?_
     refine zp 1 8 #[T,T,F,F,F,F,F,F,F,F,F,F,F,F,F,F,F,F] ?_
     refine zp 2 9 #[T,T,T,F,F,F,F,F,F,F,F,F,F,F,F,F,F,F] ?_
     refine zp 3 10 #[T,T,T,T,F,F,F,F,F,F,F,F,F,F,F,F,F,F] ?_
     refine zp 4 11 #[T,T,T,T,T,F,F,F,F,F,F,F,F,F,F,F,F,F] ?_
     refine zp 5 12 #[T,T,T,T,T,T,F,F,F,F,F,F,F,F,F,F,F,F] ?_
     refine zp 6 13 #[T,T,T,T,T,T,T,F,F,F,F,F,F,F,F,F,F,F] ?_
     refine zp 7 14 #[T,T,T,T,T,T,T,T,F,F,F,F,F,F,F,F,F,F] ?_
     refine zp 8 15 #[T,T,T,T,T,T,T,T,T,F,F,F,F,F,F,F,F,F] ?_
     refine zp 9 16 #[T,T,T,T,T,T,T,T,T,T,F,F,F,F,F,F,F,F] ?_
     refine zp 10 17 #[T,T,T,T,T,T,T,T,T,T,T,F,F,F,F,F,F,F] ?_
     refine zp 11 18 #[T,T,T,T,T,T,T,T,T,T,T,T,F,F,F,F,F,F] ?_
     refine zu 12 19 #[T,T,T,T,T,T,T,T,T,T,T,T,T,F,F,F,F,F] ?_
     refine zu 13 20 #[T,T,T,T,T,T,T,T,T,T,T,T,T,T,F,F,F,F] ?_
     refine zu 14 21 #[T,T,T,T,T,T,T,T,T,T,T,T,T,T,T,F,F,F] ?_
     refine zu 15 22 #[T,T,T,T,T,T,T,T,T,T,T,T,T,T,T,T,F,F] ?_
     refine zu 16 23 #[T,T,T,T,T,T,T,T,T,T,T,T,T,T,T,T,T,F] ?_
     refine zp 17 24 #[T,T,T,T,T,T,T,T,T,T,T,T,T,T,T,T,T,T] ?_
     refine done_ (done_of HT_.out (by kernel_rfl)) ?_
     try go_wp2
     go_meet
     case rel => exact ⟨_, (true), z41, H', ⟨z68⟩, ⟨z25⟩⟩
    ·rw [if_neg c7] at H; have c7b0 : decide (255 < a0) = false := decide_eq_false c7; clear c7
     by_cases c9 : 0 ≤ 4
     ·rw [if_pos c9] at H; have c9b0 := eq_true c9
      try (have c9sa0 := c9b0; simp only [ByteArray.size_append, Int.natCast_add] at c9sa0)
      have c9b1 : decide (0 ≤ 4) = true := decide_eq_true c9; clear c9
      by_cases c10 : 4 ≤ (a1.size : Int)
      ·rw [if_pos c10] at H; have c10b0 := eq_true c10
       try (have c10sa0 := c10b0; simp only [ByteArray.size_append, Int.natCast_add] at c10sa0)
       have c10b1 : decide (4 ≤ (a1.size : Int)) = true := decide_eq_true c10; clear c10; replace H := Option.bind_eq_some_iff.mp H; obtain ⟨t127, A110, H⟩ := H; replace H : (Wj0 k a1 ((a1.extract 0 4).toList != t127.toList)) = some (r1, r2) := H; have A11 := A0k A110; clear A110; have H' := A0k H; clear H
       try go_wp2
       have n0_ := A0k (pD HB.out); clear HB; have HB := n0_; clear n0_; refine start_ (n := 18) (S := fun w' => True) (ds := []) #[F,F,F,F,F,F,F,F,F,F,F,F,F,F,F,F,F,F] (by kernel_rfl) rfl rfl trivial (fun hHeld => ?_); refine with_tabW mark_Open.tab1 mark_Open.bits1 (fun HT_ HW_ => ?_); generalize w.drew = w12 at HB hHeld ⊢; refine zp 0 7 #[T,F,F,F,F,F,F,F,F,F,F,F,F,F,F,F,F,F] ?_
       refine zp 1 8 #[T,T,F,F,F,F,F,F,F,F,F,F,F,F,F,F,F,F] ?_
       refine zp 2 9 #[T,T,T,F,F,F,F,F,F,F,F,F,F,F,F,F,F,F] ?_
       refine zp 3 10 #[T,T,T,T,F,F,F,F,F,F,F,F,F,F,F,F,F,F] ?_
       refine zp 4 11 #[T,T,T,T,T,F,F,F,F,F,F,F,F,F,F,F,F,F] ?_
       refine zp 5 12 #[T,T,T,T,T,T,F,F,F,F,F,F,F,F,F,F,F,F] ?_
       refine zp 6 13 #[T,T,T,T,T,T,T,F,F,F,F,F,F,F,F,F,F,F] ?_
       refine zp 7 14 #[T,T,T,T,T,T,T,T,F,F,F,F,F,F,F,F,F,F] ?_
       refine zp 8 15 #[T,T,T,T,T,T,T,T,T,F,F,F,F,F,F,F,F,F] ?_
       refine zp 9 16 #[T,T,T,T,T,T,T,T,T,T,F,F,F,F,F,F,F,F] ?_
       refine zp 10 17 #[T,T,T,T,T,T,T,T,T,T,T,F,F,F,F,F,F,F] ?_
       refine zp 11 18 #[T,T,T,T,T,T,T,T,T,T,T,T,F,F,F,F,F,F] ?_
       refine zp 12 19 #[T,T,T,T,T,T,T,T,T,T,T,T,T,F,F,F,F,F] ?_
       refine zp 13 20 #[T,T,T,T,T,T,T,T,T,T,T,T,T,T,F,F,F,F] ?_
       refine zp 14 21 #[T,T,T,T,T,T,T,T,T,T,T,T,T,T,T,F,F,F] ?_
       refine zo 15 22 #[T,T,T,T,T,T,T,T,T,T,T,T,T,T,T,T,F,F] (fun K hK => ?_); refine goes_ Tryd.func84 (by kernel_rfl) rfl #[.int .i64 a0] (by rfl) rfl rfl z52 ?_
       with_reducible refine (mark_head.calls k a0 t127 _ A11.out).mono ?_
       rintro e w13 ⟨rfl, hb⟩; refine ⟨_, rfl, ?_⟩; have n0_ := A0k (pS z25 hb); clear HB; have HB := n0_; clear n0_
       (try clear hb)
       refine hK.out _ _ trivial (fun hHeld => ?_); clear hK K; refine zn ?_
       refine zp 16 23 #[T,T,T,T,T,T,T,T,T,T,T,T,T,T,T,T,T,F] ?_
       refine zp 17 24 #[T,T,T,T,T,T,T,T,T,T,T,T,T,T,T,T,T,T] ?_
       refine done_ (done_of HT_.out (by kernel_rfl)) ?_
       try go_wp2
       go_meet
       case rel => exact ⟨_, (((a1.extract 0 4).toList != t127.toList)), z41, H', ⟨z68⟩, ⟨z25⟩⟩
      ·rw [if_neg c10] at H; exact absurd H (by simp)
     ·rw [if_neg c9] at H; exact absurd H (by simp)
  ·rw [if_neg c4] at H; have c4b0 : ((a1.size : Int) == 512) = false := beq_eq_false_iff_ne.mpr c4; have c4b1 : ((a1.size : Int) != 512) = true := bne_iff_ne.mpr c4
   (first | rw [c4b0] | (simp only [i64_w, i32_w]; rw [c4b0]) | skip)
   have H' := A0k H; clear H
   try go_wp2
   have n0_ := A0k (pD HB.out); clear HB; have HB := n0_; clear n0_; refine start_ (n := 18) (S := fun w' => True) (ds := []) #[F,F,F,F,F,F,F,F,F,F,F,F,F,F,F,F,F,F] (by kernel_rfl) rfl rfl trivial (fun hHeld => ?_); refine with_tabW mark_Open.tab1 mark_Open.bits1 (fun HT_ HW_ => ?_); generalize w.drew = w14 at HB hHeld ⊢; refine zp 0 7 #[T,F,F,F,F,F,F,F,F,F,F,F,F,F,F,F,F,F] ?_
   refine zp 1 8 #[T,T,F,F,F,F,F,F,F,F,F,F,F,F,F,F,F,F] ?_
   refine zp 2 9 #[T,T,T,F,F,F,F,F,F,F,F,F,F,F,F,F,F,F] ?_
   refine zp 3 10 #[T,T,T,T,F,F,F,F,F,F,F,F,F,F,F,F,F,F] ?_
   refine zu 4 11 #[T,T,T,T,T,F,F,F,F,F,F,F,F,F,F,F,F,F] ?_
   refine zu 5 12 #[T,T,T,T,T,T,F,F,F,F,F,F,F,F,F,F,F,F] ?_
   refine zp 6 13 #[T,T,T,T,T,T,T,F,F,F,F,F,F,F,F,F,F,F] ?_
   refine zp 7 14 #[T,T,T,T,T,T,T,T,F,F,F,F,F,F,F,F,F,F] ?_
   refine zu 8 15 #[T,T,T,T,T,T,T,T,T,F,F,F,F,F,F,F,F,F] ?_
   refine zu 9 16 #[T,T,T,T,T,T,T,T,T,T,F,F,F,F,F,F,F,F] ?_
   refine zp 10 17 #[T,T,T,T,T,T,T,T,T,T,T,F,F,F,F,F,F,F] ?_
   refine zp 11 18 #[T,T,T,T,T,T,T,T,T,T,T,T,F,F,F,F,F,F] ?_
   refine zu 12 19 #[T,T,T,T,T,T,T,T,T,T,T,T,T,F,F,F,F,F] ?_
   refine zu 13 20 #[T,T,T,T,T,T,T,T,T,T,T,T,T,T,F,F,F,F] ?_
   refine zu 14 21 #[T,T,T,T,T,T,T,T,T,T,T,T,T,T,T,F,F,F] ?_
   refine zu 15 22 #[T,T,T,T,T,T,T,T,T,T,T,T,T,T,T,T,F,F] ?_
   refine zu 16 23 #[T,T,T,T,T,T,T,T,T,T,T,T,T,T,T,T,T,F] ?_
   refine zp 17 24 #[T,T,T,T,T,T,T,T,T,T,T,T,T,T,T,T,T,T] ?_
   refine done_ (done_of HT_.out (by kernel_rfl)) ?_
   try go_wp2
   go_meet
   case rel => exact ⟨_, (true), z41, H', ⟨z68⟩, ⟨z25⟩⟩
 case rest =>
  clear HC3; obtain ⟨kq, x24_2, rfl, HA, HJ2, HB⟩ := hcut; cases kq with
  | zero => exact absurd HA.out (by simp [Wj0])
  | succ kj2 =>
   have H := HA.out; clear HA; simp only [Wj0] at H
   by_cases c15 : x24_2 = true
   ·subst c15; have H1 : (some ((⟨#[]⟩ : ByteArray), some 4)) = some (r1, r2) := by rw [if_pos rfl] at H; exact H
    clear H; have H := H1; clear H1; simp only [Option.some.injEq, Prod.mk.injEq] at H; obtain ⟨rfl, rfl⟩ := H; go_wp2
    go_ret2
    exact ⟨z21, z25⟩
   ·replace c15 := Bool.eq_false_iff.mpr c15; subst c15; have H1 : (if 508 ≤ (a1.size : Int) then (if 0 ≤ 508 then ((mark_sumOf.f kj2 (a1.extract 0 508)).bind fun t128 => (if (a1.extract 508 a1.size).toList = t128.toList then (if 4 ≤ 508 then (some (a1.extract 4 508, none)) else (none)) else (some ((⟨#[]⟩ : ByteArray), some 5)))) else (none)) else (none)) = some (r1, r2) := by rw [if_neg (show ¬ (false = true) by decide)] at H; exact H
    clear H; have H := H1; clear H1
    by_cases c16 : 508 ≤ (a1.size : Int)
    ·rw [if_pos c16] at H; have c16b0 := eq_true c16
     try (have c16sa0 := c16b0; simp only [ByteArray.size_append, Int.natCast_add] at c16sa0)
     have c16b1 : decide (508 ≤ (a1.size : Int)) = true := decide_eq_true c16; clear c16
     by_cases c17 : 0 ≤ 508
     ·rw [if_pos c17] at H; have c17b0 := eq_true c17
      try (have c17sa0 := c17b0; simp only [ByteArray.size_append, Int.natCast_add] at c17sa0)
      have c17b1 : decide (0 ≤ 508) = true := decide_eq_true c17; clear c17; have c18b0 := eq_true (of_decide_eq_true z18 : 508 ≤ (a1.size : Int)); replace H := Option.bind_eq_some_iff.mp H; obtain ⟨t128, A190, H⟩ := H; replace H : (if (a1.extract 508 a1.size).toList = t128.toList then (if 4 ≤ 508 then (some (a1.extract 4 508, none)) else (none)) else (some ((⟨#[]⟩ : ByteArray), some 5))) = some (r1, r2) := H; have A19 := A0k A190; clear A190
      by_cases c20 : (a1.extract 508 a1.size).toList = t128.toList
      ·rw [if_pos c20] at H; have c20b0 : ((a1.extract 508 a1.size).toList == t128.toList) = true := beq_iff_eq.mpr c20; have c20b1 : ((a1.extract 508 a1.size).toList != t128.toList) = false := bne_eq_false_iff_eq.mpr c20; clear c20
       by_cases c21 : 4 ≤ 508
       ·rw [if_pos c21] at H; have c21b0 := eq_true c21
        try (have c21sa0 := c21b0; simp only [ByteArray.size_append, Int.natCast_add] at c21sa0)
        have c21b1 : decide (4 ≤ 508) = true := decide_eq_true c21; clear c21; have c22b0 := eq_true (of_decide_eq_true z18 : 508 ≤ (a1.size : Int)); simp only [Option.some.injEq, Prod.mk.injEq] at H; obtain ⟨rfl, rfl⟩ := H
        try go_wp2
        have n0_ := A0k (pD HB.out); clear HB; have HB := n0_; clear n0_; refine start_ (n := 8) (S := fun w' => True) (ds := []) #[F,F,F,F,F,F,F,F] (by kernel_rfl) rfl rfl trivial (fun hHeld => ?_); refine with_tabW mark_Open.tab4 mark_Open.bits4 (fun HT_ HW_ => ?_); generalize wc.drew = w23 at HB hHeld ⊢; refine zp 0 26 #[T,F,F,F,F,F,F,F] ?_
        refine zp 1 27 #[T,T,F,F,F,F,F,F] ?_
        refine zp 2 28 #[T,T,T,F,F,F,F,F] ?_
        refine zp 3 29 #[T,T,T,T,F,F,F,F] ?_
        refine zp 4 30 #[T,T,T,T,T,F,F,F] ?_
        refine zp 5 31 #[T,T,T,T,T,T,F,F] ?_
        refine zo 6 32 #[T,T,T,T,T,T,T,F] (fun K hK => ?_); refine goes_ Tryd.func85 (by kernel_rfl) rfl #[.string (a1.extract 0 508)] (by rfl) rfl rfl z52 ?_
        with_reducible refine (mark_sumOf.calls kj2 (a1.extract 0 508) t128 _ (Laid.below HL_.out z25) A19.out).mono ?_
        rintro e w24 ⟨rfl, hb⟩; refine ⟨_, rfl, ?_⟩; have n0_ := A0k (pS z25 hb); clear HB; have HB := n0_; clear n0_
        (try clear hb)
        refine hK.out _ _ trivial (fun hHeld => ?_); clear hK K; refine zn ?_
        refine zp 7 33 #[T,T,T,T,T,T,T,T] ?_
        refine done_ (done_of HT_.out (by kernel_rfl)) ?_
        try go_wp2
        go_ret2
        exact ⟨z21, z25⟩
       ·rw [if_neg c21] at H; exact absurd H (by simp)
      ·rw [if_neg c20] at H; have c20b0 : ((a1.extract 508 a1.size).toList == t128.toList) = false := beq_eq_false_iff_ne.mpr c20; have c20b1 : ((a1.extract 508 a1.size).toList != t128.toList) = true := bne_iff_ne.mpr c20; simp only [Option.some.injEq, Prod.mk.injEq] at H; obtain ⟨rfl, rfl⟩ := H
       try go_wp2
       have n0_ := A0k (pD HB.out); clear HB; have HB := n0_; clear n0_; refine start_ (n := 8) (S := fun w' => True) (ds := []) #[F,F,F,F,F,F,F,F] (by kernel_rfl) rfl rfl trivial (fun hHeld => ?_); refine with_tabW mark_Open.tab4 mark_Open.bits4 (fun HT_ HW_ => ?_); generalize wc.drew = w25 at HB hHeld ⊢; refine zp 0 26 #[T,F,F,F,F,F,F,F] ?_
       refine zp 1 27 #[T,T,F,F,F,F,F,F] ?_
       refine zp 2 28 #[T,T,T,F,F,F,F,F] ?_
       refine zp 3 29 #[T,T,T,T,F,F,F,F] ?_
       refine zp 4 30 #[T,T,T,T,T,F,F,F] ?_
       refine zp 5 31 #[T,T,T,T,T,T,F,F] ?_
       refine zo 6 32 #[T,T,T,T,T,T,T,F] (fun K hK => ?_); refine goes_ Tryd.func85 (by kernel_rfl) rfl #[.string (a1.extract 0 508)] (by rfl) rfl rfl z52 ?_
       with_reducible refine (mark_sumOf.calls kj2 (a1.extract 0 508) t128 _ (Laid.below HL_.out z25) A19.out).mono ?_
       rintro e w26 ⟨rfl, hb⟩; refine ⟨_, rfl, ?_⟩; have n0_ := A0k (pS z25 hb); clear HB; have HB := n0_; clear n0_
       (try clear hb)
       refine hK.out _ _ trivial (fun hHeld => ?_); clear hK K; refine zn ?_
       refine zp 7 33 #[T,T,T,T,T,T,T,T] ?_
       refine done_ (done_of HT_.out (by kernel_rfl)) ?_
       try go_wp2
       go_ret2
       exact ⟨z21, z25⟩
     ·rw [if_neg c17] at H; exact absurd H (by simp)
    ·rw [if_neg c16] at H; exact absurd H (by simp)
end
/-- A state of type 163 at block g of W; what its slices lead to came in by w0. -/
def IsS163 (w0 W : World) (g : Nat) (f0 : ByteArray) (f1 : Option Int) : Prop := W.heap[g]? = some (.cells #[.string f0, errW f1] 163 (0, 0)) ∧ w0.heap.size ≤ g
theorem IsS163.grown {w0 W : World} {g : Nat} {f0 : ByteArray} {f1 : Option Int} {W1 : World} {row : Option Nat} (h : IsS163 w0 W g f0 f1) (hw : W.grownBy W1 row) (hne : some g ≠ row) : IsS163 w0 W1 g f0 f1 := by
 obtain ⟨hb, hg⟩ := h; exact ⟨blk_grown hb hw hne, hg⟩
theorem IsS163.kept {w0 W : World} {g : Nat} {f0 : ByteArray} {f1 : Option Int} {W1 : World} {S : Nat → Prop} (h : IsS163 w0 W g f0 f1) (hk : Kept W W1 S) (hne : ¬ S g) : IsS163 w0 W1 g f0 f1 := by
 obtain ⟨hb, hg⟩ := h; exact ⟨blk_kept hb hk hne, hg⟩
theorem IsS163.below {w0 W : World} {g : Nat} {f0 : ByteArray} {f1 : Option Int} {W1 : World} (h : IsS163 w0 W g f0 f1) (hw : Below W.heap.size W W1) : IsS163 w0 W1 g f0 f1 := h.grown (grown_of_below hw none) (by simp)
theorem IsS163.alloc {w0 W : World} {g : Nat} {f0 : ByteArray} {f1 : Option Int} (h : IsS163 w0 W g f0 f1) (o : Obj) : IsS163 w0 (W.alloc o) g f0 f1 := h.below (below_alloc (Below.refl _ _) o)
theorem IsS163.drewN {w0 W : World} {g : Nat} {f0 : ByteArray} {f1 : Option Int} (h : IsS163 w0 W g f0 f1) (m : Nat) : IsS163 w0 (W.drewN m) g f0 f1 := h
theorem IsS163.drew {w0 W : World} {g : Nat} {f0 : ByteArray} {f1 : Option Int} (h : IsS163 w0 W g f0 f1) : IsS163 w0 W.drew g f0 f1 := h
theorem IsS163.at_ {w0 W : World} {g : Nat} {f0 : ByteArray} {f1 : Option Int} {w' : World} {m : Nat} (hq : W.drewN m = w') (h : IsS163 w0 W g f0 f1) : IsS163 w0 w' g f0 f1 := by subst hq; exact IsS163.drewN h m
theorem IsS163.apart {w0 W : World} {g : Nat} {f0 : ByteArray} {f1 : Option Int} {α : Type} {d : Kd α} {e : Nat} {base : Nat} {ok : Nat → Prop} {v : Value} {xs : List α} (h : IsS163 w0 W g f0 f1) (ho : d.R e W base ok v xs) (ht : ∀ q, q ∈ e :: d.E → q ≠ 163) : d.R e W base (fun k => ok k ∧ k ≠ g) v xs := by
 obtain ⟨hb, hg⟩ := h; exact Kd.R_types ho hb ht
theorem IsS163.own_ne {w0 W : World} {g : Nat} {f0 : ByteArray} {f1 : Option Int} {α : Type} {d : Kd α} {e : Nat} {base : Nat} {ok : Nat → Prop} {v : Value} {xs : List α} (h : IsS163 w0 W g f0 f1) (ho : d.R e W base ok v xs) (ht : e ≠ 163) : some g ≠ v.ownBlock := by
 obtain ⟨hb, hg⟩ := h; exact Kd.R_ne ho hb ht
theorem IsS163.lt {w0 W : World} {g : Nat} {f0 : ByteArray} {f1 : Option Int} (h : IsS163 w0 W g f0 f1) : g < W.heap.size := by
 obtain ⟨hb, hg⟩ := h; exact blk_lt hb
theorem IsS163.ge {w0 W : World} {g : Nat} {f0 : ByteArray} {f1 : Option Int} (h : IsS163 w0 W g f0 f1) : w0.heap.size ≤ g := by
 obtain ⟨hb, hg⟩ := h; exact hg
theorem IsS163.ne_blk {w0 W : World} {g : Nat} {f0 : ByteArray} {f1 : Option Int} {a : Nat} {cs : Array Value} {t : TypeId} {fr : Nat × Nat} (h : IsS163 w0 W g f0 f1) (hb2 : W.heap[a]? = some (.cells cs t fr)) (ht : t ≠ 163) : g ≠ a := by
 obtain ⟨hb, hg⟩ := h; rintro rfl; rw [hb] at hb2; injection hb2 with hb2
 injection hb2 with _ ht2
 exact ht ht2.symm
theorem IsS163.far {w0 W : World} {g : Nat} {f0 : ByteArray} {f1 : Option Int} {p : Addr} (h : IsS163 w0 W g f0 f1) (hne : g ≠ p.block) (u : Value) : IsS163 w0 (W.setCell p u) g f0 f1 := by
 obtain ⟨hb, hg⟩ := h; exact ⟨blk_far hb hne u, hg⟩
theorem cellS163_0 {W : World} {g : Nat} {f0 : ByteArray} {f1 : Option Int} (h : W.heap[g]? = some (.cells #[.string f0, errW f1] 163 (0, 0))) : W.cell? ⟨g, 0, none⟩ = some (.string f0) := (blk_cell h 0).trans rfl
theorem IsS163.set_0 {w0 W : World} {g : Nat} {f0 : ByteArray} {f1 : Option Int} (h : IsS163 w0 W g f0 f1) (x : ByteArray) : IsS163 w0 (W.setCell ⟨g, 0, none⟩ (.string x)) g x f1 := by
 obtain ⟨hb, hg⟩ := h; exact ⟨by simpa using blk_set hb 0 (.string x), hg⟩
theorem cellS163_1 {W : World} {g : Nat} {f0 : ByteArray} {f1 : Option Int} (h : W.heap[g]? = some (.cells #[.string f0, errW f1] 163 (0, 0))) : W.cell? ⟨g, 1, none⟩ = some (errW f1) := (blk_cell h 1).trans rfl
theorem IsS163.set_1 {w0 W : World} {g : Nat} {f0 : ByteArray} {f1 : Option Int} (h : IsS163 w0 W g f0 f1) (x : Option Int) : IsS163 w0 (W.setCell ⟨g, 1, none⟩ (errW x)) g f0 x := by
 obtain ⟨hb, hg⟩ := h; exact ⟨by simpa using blk_set hb 1 (errW x), hg⟩
theorem IsS163.set_1_none {w0 W : World} {g : Nat} {f0 : ByteArray} {f1 : Option Int} (h : IsS163 w0 W g f0 f1) : IsS163 w0 (W.setCell ⟨g, 1, none⟩ .nilIface) g f0 none := IsS163.set_1 h none
theorem IsS163.set_1_some {w0 W : World} {g : Nat} {f0 : ByteArray} {f1 : Option Int} (h : IsS163 w0 W g f0 f1) (x : Int) : IsS163 w0 (W.setCell ⟨g, 1, none⟩ (.iface 36 (.int .i64 x))) g f0 (some x) := IsS163.set_1 h (some x)
theorem IsS163.new (w0 W : World) (f0 : ByteArray) (f1 : Option Int) (hB : Below w0.heap.size w0 W) : IsS163 w0 (W.alloc (.cells #[.string f0, errW f1] 163)) W.heap.size f0 f1 := ⟨by simpa using heap_alloc_new W _, hB.size⟩

/-! ### le_Read: function 69 -/
def le_Read.f (a0 : ByteArray) : Option (ByteArray × Option Int) := some (a0, none)
set_option maxHeartbeats 8000000 in
set_option maxRecDepth 100000 in
theorem le_Read.calls (a0 : ByteArray) (r1 : ByteArray) (r2 : Option Int) (w0 w : World) (hB : Below w0.heap.size w0 w) (h : le_Read.f a0 = some (r1, r2)) :
  Calls Tryd.prog 69 #[.string a0] w fun e w' => ∃ g_ : Nat, e = .returned (.pointer (some ⟨g_, 0, none⟩)) ∧ IsS163 w0 w' g_ r1 r2 ∧ Below w0.heap.size w0 w' ∧ Below w.heap.size w w' := by
 have hu163 := Tryd.underlying163; have HBW := Aside0.mk (Below.refl w.heap.size w); have HW0 := Aside0.mk hB.size; have HB := Aside0.mk hB; clear hB; have H : (some (a0, none)) = some (r1, r2) := h; clear h; simp only [Option.some.injEq, Prod.mk.injEq] at H; obtain ⟨rfl, rfl⟩ := H; go_enter Tryd.func69, Tryd.ntmps69
 go_wp2_with (first | ((with_reducible refine gate_dst (N := 5) rfl ?_); refine box_event ?hg (N := 5) ?hd (cs := #[.string a0, errW none]) (t := 163) ?hr ?_; (case hd => rfl); (case hg => rfl); (case hr => exact z100); intro gb129 hg w2 hbox hb; have n0_ := Aside0.mk (below_step HBW.out hb); have n1_ := Aside0.mk (below_step z19 hb); have n2_ := Aside0.mk (hbox); have n3_ := Aside0.mk ((by rw [hg]; exact (below_size (by repeat (first | (with_reducible first | exact HBW.out | apply below_alloc | apply pw_below_drewN | apply below_drew1) | exact HBW.out))) : w.heap.size ≤ gb129)); have n4_ := Aside0.mk ((Nat.le_trans HW0.out (by rw [hg]; exact (below_size (by repeat (first | (with_reducible first | exact HBW.out | apply below_alloc | apply pw_below_drewN | apply below_drew1) | exact HBW.out))) : w.heap.size ≤ gb129) : w0.heap.size ≤ gb129)); clear HBW; clear HB; have HBW := n0_; have HB := n1_; have BK129 := n2_; have GW129 := n3_; have GE129 := n4_; clear n0_ n1_ n2_ n3_ n4_; clear hb hbox hg))
 go_ret
 exact ⟨_, rfl, (show IsS163 w0 _ gb129 a0 none from ⟨(z3 BK129.out), GE129.out⟩), by repeat (first | (with_reducible first | exact HB.out | apply below_alloc | apply pw_below_drewN | apply below_drew1 | refine below_set ?_ GE129.out) | exact HB.out), by repeat (first | (with_reducible first | exact HBW.out | apply below_alloc | apply pw_below_drewN | apply below_drew1 | refine below_set ?_ GW129.out) | exact HBW.out)⟩

/-! ### le_In_fail: function 93 -/
def le_In_fail.f (s0_0 : ByteArray) (s0_1 : Option Int) (a1 : Int) : Option (ByteArray × Option Int) := if s0_1.isNone = true then (some (s0_0, some a1)) else (some (s0_0, some (s0_1.getD 0)))
set_option maxHeartbeats 8000000 in
set_option maxRecDepth 100000 in
theorem le_In_fail.calls (g : Nat) (s0_0 : ByteArray) (s0_1 : Option Int) (a1 : Int) (r1 : ByteArray) (r2 : Option Int) (w0 w : World) (hI : IsS163 w0 w g s0_0 s0_1) (hB : Below w0.heap.size w0 w) (h : le_In_fail.f s0_0 s0_1 a1 = some (r1, r2)) :
  Calls Tryd.prog 93 #[.pointer (some ⟨g, 0, none⟩), .int .i64 a1] w fun e w' => e = .returned (.tuple #[]) ∧ IsS163 w0 w' g r1 r2 ∧ Below w0.heap.size w0 w' ∧ KeepBut w w' g none := by
 have hu27 := Tryd.underlying27; have hu36 := Tryd.underlying36; have HI0 := Aside0.mk hI; have HK := Aside0.mk (KeepBut.refl w g none); have HL := Aside0.mk hB.size; clear hI; have HW0 := Aside0.mk hB.size; have HB := Aside0.mk hB; clear hB; have H : (if s0_1.isNone = true then (some (s0_0, some a1)) else (some (s0_0, some (s0_1.getD 0)))) = some (r1, r2) := h; clear h; rcases s0_1 with _ | q130
 ·have H1 : (some (s0_0, some a1)) = some (r1, r2) := by rw [if_pos (show (none : Option Int).isNone = true by rfl)] at H; exact H
  clear H; have H := H1; clear H1
  try simp only [errW_none, errW_some]
  simp only [Option.some.injEq, Prod.mk.injEq] at H; obtain ⟨rfl, rfl⟩ := H; obtain ⟨HGz3, hgz3⟩ := HI0.out; have hcz3_0 := cellS163_0 HGz3
  try simp only [errW_none, errW_some] at hcz3_0
  have hcz3_1 := cellS163_1 HGz3
  try simp only [errW_none, errW_some] at hcz3_1
  have hfz3_0 := blk_frozen HGz3 0; have hfz3_1 := blk_frozen HGz3 1; clear HGz3 hgz3; go_enter Tryd.func93, Tryd.ntmps93
  go_wp2
  first | go_end0 | ((try simp only [Exit.inBlock, Exit.then]); refine bodyPost_ret (results_none rfl _ _ _) rfl ?_)
  exact ⟨z21, z22, z40, z20⟩
 ·have H1 : (some (s0_0, some q130)) = some (r1, r2) := by rw [if_neg (show ¬ (some q130).isNone = true by simp)] at H; exact H
  clear H; have H := H1; clear H1
  try simp only [errW_none, errW_some]
  simp only [Option.some.injEq, Prod.mk.injEq] at H; obtain ⟨rfl, rfl⟩ := H; obtain ⟨HGz4, hgz4⟩ := HI0.out; have hcz4_0 := cellS163_0 HGz4
  try simp only [errW_none, errW_some] at hcz4_0
  have hcz4_1 := cellS163_1 HGz4
  try simp only [errW_none, errW_some] at hcz4_1
  have hfz4_0 := blk_frozen HGz4 0; have hfz4_1 := blk_frozen HGz4 1; clear HGz4 hgz4; go_enter Tryd.func93, Tryd.ntmps93
  go_wp2
  first | go_end0 | ((try simp only [Exit.inBlock, Exit.then]); refine bodyPost_ret (results_none rfl _ _ _) rfl ?_)
  exact ⟨z21, z22, z40, z20⟩

/-! ### le_Get: function 94 -/
def le_Get.l0 : Nat → ByteArray → Int → Int → Option (Int)
 | 0, _, _, _ => none
 | k + 1, x0, x3, x4 => if x4 ≥ 0 then (if 0 ≤ x4 then (if x4 < (x0.size : Int) then (le_Get.l0 k x0 (Go.bits .or .i64 (wrap64 (x3 * 256)) (wrap64 (bt x0 x4))) (wrap64 (x4 - 1))) else (none)) else (none)) else (some x3)
def le_Get.f (k : Nat) (a0 : ByteArray) : Option (Int) := if (a0.size : Int) > 7 then (some 0) else (le_Get.l0 k a0 0 (wrap64 ((a0.size : Int) - 1)))
set_option maxHeartbeats 8000000 in
set_option maxRecDepth 100000 in
theorem le_Get.calls (k : Nat) (a0 : ByteArray) (r : Int) (w : World) (h : le_Get.f k a0 = some r) :
  Calls Tryd.prog 94 #[.string a0] w fun e w' => e = .returned (.int .i64 r) ∧ Drawn0 w w' := by
 have H : (if (a0.size : Int) > 7 then (some 0) else (le_Get.l0 k a0 0 (wrap64 ((a0.size : Int) - 1)))) = some r := h; clear h
 by_cases c2 : (a0.size : Int) > 7
 ·rw [if_pos c2] at H; have c2b0 : decide (7 < (a0.size : Int)) = true := decide_eq_true c2; have c2b1 : decide (7 < a0.size) = true := decide_eq_true (by omega); clear c2; obtain rfl := Option.some.inj H; go_enter Tryd.func94, Tryd.ntmps94
  go_wp2
  go_ret
  exact ⟨z41, z63⟩
 ·rw [if_neg c2] at H; have c2b0 : decide (7 < (a0.size : Int)) = false := decide_eq_false c2; have c2b1 : decide (7 < a0.size) = false := decide_eq_false (by omega); clear c2; have H' := Aside0.mk H; clear H; go_enter Tryd.func94, Tryd.ntmps94
  go_wp2
  go_loopg [3, 4] k (fun kq v3 v4 w' => ∃ (x3_1 : Int) (x4_1 : Int), v3 = .int .i64 x3_1 ∧ v4 = .int .i64 x4_1 ∧ Aside0 (le_Get.l0 kq a0 x3_1 x4_1 = some r) ∧ Aside0 (kq ≤ k) ∧ Drawn0 w w')
  case atStart => exact ⟨(0), (wrap64 ((a0.size : Int) - 1)), z41, z41, H', ⟨Nat.le_refl _⟩, z63⟩
  case round =>
   clear H'
   (try clear c2)
   (try clear c2b0)
   (try clear c2b1)
   obtain ⟨x3_1, x4_1, rfl, rfl, HA, HK1, ⟨m1, rfl⟩⟩ := hrel; cases gk with
   | zero => exact absurd HA.out (by simp [le_Get.l0])
   | succ k1 =>
    have H := HA.out; clear HA; simp only [le_Get.l0] at H
    by_cases c3 : x4_1 ≥ 0
    ·rw [if_pos c3] at H; have c3b0 : decide (0 ≤ x4_1) = true := decide_eq_true c3; clear c3
     by_cases c4 : 0 ≤ x4_1
     ·rw [if_pos c4] at H; have c4b0 : decide (0 ≤ x4_1) = true := decide_eq_true c4; clear c4
      by_cases c5 : x4_1 < (a0.size : Int)
      ·rw [if_pos c5] at H; have c5b0 : decide (x4_1 < (a0.size : Int)) = true := decide_eq_true c5; clear c5; have H' := Aside0.mk H; clear H; have p6 : 0 ≤ (x4_1 : Int) := of_decide_eq_true z18; have q6 : x4_1 < (a0.size : Int) := of_decide_eq_true z18; have hx6 := bt_at a0 x4_1; replace p6 := eq_true p6; replace q6 := eq_true q6; go_wp2
       go_roundg k1
       case measure => have := HK1.out; omega
       case rel => exact ⟨(Go.bits .or .i64 (wrap64 (x3_1 * 256)) (wrap64 (bt a0 x4_1))), (wrap64 (x4_1 - 1)), z41, z41, H', ⟨by have := HK1.out; omega⟩, z63⟩
      ·rw [if_neg c5] at H; exact absurd H (by simp)
     ·rw [if_neg c4] at H; exact absurd H (by simp)
    ·rw [if_neg c3] at H; have c3b0 : decide (0 ≤ x4_1) = false := decide_eq_false c3; clear c3; obtain rfl := Option.some.inj H; go_wp2
     go_ret
     exact ⟨z41, z63⟩

/-! ### le_In_Text: function 95 -/
def le_In_Text.f (s0_0 : ByteArray) (s0_1 : Option Int) (a1 : Int) : Option (ByteArray × ByteArray × Option Int) := if a1 < 0 then ((le_In_fail.f s0_0 s0_1 1).bind fun bt131 => (if bt131.2.isNone = true then (if 0 ≤ a1 then (if a1 ≤ (bt131.1.size : Int) then (some (bt131.1.extract 0 (a1 : Int).toNat, bt131.1.extract (a1 : Int).toNat bt131.1.size, none)) else (none)) else (none)) else (some ((⟨#[]⟩ : ByteArray), bt131.1, some (bt131.2.getD 0))))) else (if a1 > (s0_0.size : Int) then ((le_In_fail.f s0_0 s0_1 4).bind fun bt134 => (if bt134.2.isNone = true then (if 0 ≤ a1 then (if a1 ≤ (bt134.1.size : Int) then (some (bt134.1.extract 0 (a1 : Int).toNat, bt134.1.extract (a1 : Int).toNat bt134.1.size, none)) else (none)) else (none)) else (some ((⟨#[]⟩ : ByteArray), bt134.1, some (bt134.2.getD 0))))) else (if s0_1.isNone = true then (if 0 ≤ a1 then (if a1 ≤ (s0_0.size : Int) then (some (s0_0.extract 0 (a1 : Int).toNat, s0_0.extract (a1 : Int).toNat s0_0.size, none)) else (none)) else (none)) else (some ((⟨#[]⟩ : ByteArray), s0_0, some (s0_1.getD 0)))))
set_option maxHeartbeats 8000000 in
set_option maxRecDepth 100000 in
theorem le_In_Text.calls (g : Nat) (s0_0 : ByteArray) (s0_1 : Option Int) (a1 : Int) (r1 : ByteArray) (r2 : ByteArray) (r3 : Option Int) (w0 w : World) (hI : IsS163 w0 w g s0_0 s0_1) (hB : Below w0.heap.size w0 w) (h : le_In_Text.f s0_0 s0_1 a1 = some (r1, r2, r3)) :
  Calls Tryd.prog 95 #[.pointer (some ⟨g, 0, none⟩), .int .i64 a1] w fun e w' => e = .returned (.string r1) ∧ IsS163 w0 w' g r2 r3 ∧ Below w0.heap.size w0 w' ∧ KeepBut w w' g none := by
 have hu27 := Tryd.underlying27; have hu36 := Tryd.underlying36; have HI0 := Aside0.mk hI; have HK := Aside0.mk (KeepBut.refl w g none); have HL := Aside0.mk hB.size; clear hI; have HW0 := Aside0.mk hB.size; have HB := Aside0.mk hB; clear hB; have H : (if a1 < 0 then ((le_In_fail.f s0_0 s0_1 1).bind fun bt131 => (if bt131.2.isNone = true then (if 0 ≤ a1 then (if a1 ≤ (bt131.1.size : Int) then (some (bt131.1.extract 0 (a1 : Int).toNat, bt131.1.extract (a1 : Int).toNat bt131.1.size, none)) else (none)) else (none)) else (some ((⟨#[]⟩ : ByteArray), bt131.1, some (bt131.2.getD 0))))) else (if a1 > (s0_0.size : Int) then ((le_In_fail.f s0_0 s0_1 4).bind fun bt134 => (if bt134.2.isNone = true then (if 0 ≤ a1 then (if a1 ≤ (bt134.1.size : Int) then (some (bt134.1.extract 0 (a1 : Int).toNat, bt134.1.extract (a1 : Int).toNat bt134.1.size, none)) else (none)) else (none)) else (some ((⟨#[]⟩ : ByteArray), bt134.1, some (bt134.2.getD 0))))) else (if s0_1.isNone = true then (if 0 ≤ a1 then (if a1 ≤ (s0_0.size : Int) then (some (s0_0.extract 0 (a1 : Int).toNat, s0_0.extract (a1 : Int).toNat s0_0.size, none)) else (none)) else (none)) else (some ((⟨#[]⟩ : ByteArray), s0_0, some (s0_1.getD 0)))))) = some (r1, r2, r3) := h; clear h
 by_cases c3 : a1 < 0
 ·rw [if_pos c3] at H; have c3b0 : decide (a1 < 0) = true := decide_eq_true c3; clear c3; replace H := Option.bind_eq_some_iff.mp H; obtain ⟨⟨t131, t132⟩, A40, H⟩ := H; replace H : (if t132.isNone = true then (if 0 ≤ a1 then (if a1 ≤ (t131.size : Int) then (some (t131.extract 0 (a1 : Int).toNat, t131.extract (a1 : Int).toNat t131.size, none)) else (none)) else (none)) else (some ((⟨#[]⟩ : ByteArray), t131, some (t132.getD 0)))) = some (r1, r2, r3) := H; have A4 := Aside0.mk A40; clear A40; rcases t132 with _ | q133
  ·have H1 : (if 0 ≤ a1 then (if a1 ≤ (t131.size : Int) then (some (t131.extract 0 (a1 : Int).toNat, t131.extract (a1 : Int).toNat t131.size, none)) else (none)) else (none)) = some (r1, r2, r3) := by rw [if_pos (show (none : Option Int).isNone = true by rfl)] at H; exact H
   clear H; have H := H1; clear H1
   try simp only [errW_none, errW_some]
   by_cases c5 : 0 ≤ a1
   ·rw [if_pos c5] at H; have c5b0 := eq_true c5
    try (have c5sa0 := c5b0; simp only [ByteArray.size_append, Int.natCast_add] at c5sa0)
    have c5b1 : decide (0 ≤ a1) = true := decide_eq_true c5; clear c5
    by_cases c6 : a1 ≤ (t131.size : Int)
    ·rw [if_pos c6] at H; have c6b0 := eq_true c6
     try (have c6sa0 := c6b0; simp only [ByteArray.size_append, Int.natCast_add] at c6sa0)
     have c6b1 : decide (a1 ≤ (t131.size : Int)) = true := decide_eq_true c6; clear c6; have c7b0 := eq_true (of_decide_eq_true z18 : 0 ≤ a1); have c8b0 := eq_true (of_decide_eq_true z18 : a1 ≤ (t131.size : Int)); simp only [Option.some.injEq, Prod.mk.injEq] at H; obtain ⟨rfl, rfl, rfl⟩ := H; go_enter Tryd.func95, Tryd.ntmps95
     go_wp2_with (first | ((with_reducible refine gate_callee (f := 93) rfl ?_); refine goesL_ (some 13) rfl rfl Tryd.func93 (by kernel_rfl) rfl #[.pointer (some ⟨g, 0, none⟩), .int .i64 1] rfl z15 ?_; (with_reducible refine (le_In_fail.calls g s0_0 s0_1 1 t131 none w0 _ ?side1 ?side2 A4.out).mono ?_); (case side1 => exact z22); (case side2 => exact z40); rintro e w9 ⟨rfl, hi, hb, hk⟩; refine ⟨_, rfl, ?_⟩; have n0_ := Aside0.mk (KeepBut.trans z20 hk (.inl rfl)); have n1_ := Aside0.mk (hb); have n2_ := Aside0.mk (hi); clear HK; clear HB; clear HI0; have HK := n0_; have HB := n1_; have HI0 := n2_; clear n0_ n1_ n2_; (try clear hb); (try clear hb2); (try clear hk); (try clear hi); (try simp only [errW_none, errW_some]); obtain ⟨HGz10, hgz10⟩ := HI0.out; have hcz10_0 := cellS163_0 HGz10; (try simp only [errW_none, errW_some] at hcz10_0); have hcz10_1 := cellS163_1 HGz10; (try simp only [errW_none, errW_some] at hcz10_1); have hfz10_0 := blk_frozen HGz10 0; have hfz10_1 := blk_frozen HGz10 1; clear HGz10 hgz10))
     go_ret
     exact ⟨z21, z22, z40, z20⟩
    ·rw [if_neg c6] at H; exact absurd H (by simp)
   ·rw [if_neg c5] at H; exact absurd H (by simp)
  ·have H1 : (some ((⟨#[]⟩ : ByteArray), t131, some q133)) = some (r1, r2, r3) := by rw [if_neg (show ¬ (some q133).isNone = true by simp)] at H; exact H
   clear H; have H := H1; clear H1
   try simp only [errW_none, errW_some]
   simp only [Option.some.injEq, Prod.mk.injEq] at H; obtain ⟨rfl, rfl, rfl⟩ := H; go_enter Tryd.func95, Tryd.ntmps95
   go_wp2_with (first | ((with_reducible refine gate_callee (f := 93) rfl ?_); refine goesL_ (some 13) rfl rfl Tryd.func93 (by kernel_rfl) rfl #[.pointer (some ⟨g, 0, none⟩), .int .i64 1] rfl z15 ?_; (with_reducible refine (le_In_fail.calls g s0_0 s0_1 1 t131 (some q133) w0 _ ?side1 ?side2 A4.out).mono ?_); (case side1 => exact z22); (case side2 => exact z40); rintro e w11 ⟨rfl, hi, hb, hk⟩; refine ⟨_, rfl, ?_⟩; have n0_ := Aside0.mk (KeepBut.trans z20 hk (.inl rfl)); have n1_ := Aside0.mk (hb); have n2_ := Aside0.mk (hi); clear HK; clear HB; clear HI0; have HK := n0_; have HB := n1_; have HI0 := n2_; clear n0_ n1_ n2_; (try clear hb); (try clear hb2); (try clear hk); (try clear hi); (try simp only [errW_none, errW_some]); obtain ⟨HGz12, hgz12⟩ := HI0.out; have hcz12_0 := cellS163_0 HGz12; (try simp only [errW_none, errW_some] at hcz12_0); have hcz12_1 := cellS163_1 HGz12; (try simp only [errW_none, errW_some] at hcz12_1); have hfz12_0 := blk_frozen HGz12 0; have hfz12_1 := blk_frozen HGz12 1; clear HGz12 hgz12))
   go_ret
   exact ⟨z21, z22, z40, z20⟩
 ·rw [if_neg c3] at H; have c3b0 : decide (a1 < 0) = false := decide_eq_false c3; clear c3
  by_cases c13 : a1 > (s0_0.size : Int)
  ·rw [if_pos c13] at H; have c13b0 : decide ((s0_0.size : Int) < a1) = true := decide_eq_true c13; clear c13; replace H := Option.bind_eq_some_iff.mp H; obtain ⟨⟨t134, t135⟩, A140, H⟩ := H; replace H : (if t135.isNone = true then (if 0 ≤ a1 then (if a1 ≤ (t134.size : Int) then (some (t134.extract 0 (a1 : Int).toNat, t134.extract (a1 : Int).toNat t134.size, none)) else (none)) else (none)) else (some ((⟨#[]⟩ : ByteArray), t134, some (t135.getD 0)))) = some (r1, r2, r3) := H; have A14 := Aside0.mk A140; clear A140; rcases t135 with _ | q136
   ·have H1 : (if 0 ≤ a1 then (if a1 ≤ (t134.size : Int) then (some (t134.extract 0 (a1 : Int).toNat, t134.extract (a1 : Int).toNat t134.size, none)) else (none)) else (none)) = some (r1, r2, r3) := by rw [if_pos (show (none : Option Int).isNone = true by rfl)] at H; exact H
    clear H; have H := H1; clear H1
    try simp only [errW_none, errW_some]
    by_cases c15 : 0 ≤ a1
    ·rw [if_pos c15] at H; have c15b0 := eq_true c15
     try (have c15sa0 := c15b0; simp only [ByteArray.size_append, Int.natCast_add] at c15sa0)
     have c15b1 : decide (0 ≤ a1) = true := decide_eq_true c15; clear c15
     by_cases c16 : a1 ≤ (t134.size : Int)
     ·rw [if_pos c16] at H; have c16b0 := eq_true c16
      try (have c16sa0 := c16b0; simp only [ByteArray.size_append, Int.natCast_add] at c16sa0)
      have c16b1 : decide (a1 ≤ (t134.size : Int)) = true := decide_eq_true c16; clear c16; have c17b0 := eq_true (of_decide_eq_true z18 : 0 ≤ a1); have c18b0 := eq_true (of_decide_eq_true z18 : a1 ≤ (t134.size : Int)); simp only [Option.some.injEq, Prod.mk.injEq] at H; obtain ⟨rfl, rfl, rfl⟩ := H; obtain ⟨HGz19, hgz19⟩ := HI0.out; have hcz19_0 := cellS163_0 HGz19
      try simp only [errW_none, errW_some] at hcz19_0
      have hcz19_1 := cellS163_1 HGz19
      try simp only [errW_none, errW_some] at hcz19_1
      have hfz19_0 := blk_frozen HGz19 0; have hfz19_1 := blk_frozen HGz19 1; clear HGz19 hgz19; go_enter Tryd.func95, Tryd.ntmps95
      go_wp2_with (first | ((with_reducible refine gate_callee (f := 93) rfl ?_); refine goesL_ (some 23) rfl rfl Tryd.func93 (by kernel_rfl) rfl #[.pointer (some ⟨g, 0, none⟩), .int .i64 4] rfl z15 ?_; (with_reducible refine (le_In_fail.calls g s0_0 s0_1 4 t134 none w0 _ ?side1 ?side2 A14.out).mono ?_); (case side1 => exact z22); (case side2 => exact z40); rintro e w20 ⟨rfl, hi, hb, hk⟩; refine ⟨_, rfl, ?_⟩; have n0_ := Aside0.mk (KeepBut.trans z20 hk (.inl rfl)); have n1_ := Aside0.mk (hb); have n2_ := Aside0.mk (hi); clear HK; clear HB; clear HI0; have HK := n0_; have HB := n1_; have HI0 := n2_; clear n0_ n1_ n2_; (try clear hb); (try clear hb2); (try clear hk); (try clear hi); (try simp only [errW_none, errW_some]); obtain ⟨HGz21, hgz21⟩ := HI0.out; have hcz21_0 := cellS163_0 HGz21; (try simp only [errW_none, errW_some] at hcz21_0); have hcz21_1 := cellS163_1 HGz21; (try simp only [errW_none, errW_some] at hcz21_1); have hfz21_0 := blk_frozen HGz21 0; have hfz21_1 := blk_frozen HGz21 1; clear HGz21 hgz21))
      go_ret
      exact ⟨z21, z22, z40, z20⟩
     ·rw [if_neg c16] at H; exact absurd H (by simp)
    ·rw [if_neg c15] at H; exact absurd H (by simp)
   ·have H1 : (some ((⟨#[]⟩ : ByteArray), t134, some q136)) = some (r1, r2, r3) := by rw [if_neg (show ¬ (some q136).isNone = true by simp)] at H; exact H
    clear H; have H := H1; clear H1
    try simp only [errW_none, errW_some]
    simp only [Option.some.injEq, Prod.mk.injEq] at H; obtain ⟨rfl, rfl, rfl⟩ := H; obtain ⟨HGz22, hgz22⟩ := HI0.out; have hcz22_0 := cellS163_0 HGz22
    try simp only [errW_none, errW_some] at hcz22_0
    have hcz22_1 := cellS163_1 HGz22
    try simp only [errW_none, errW_some] at hcz22_1
    have hfz22_0 := blk_frozen HGz22 0; have hfz22_1 := blk_frozen HGz22 1; clear HGz22 hgz22; go_enter Tryd.func95, Tryd.ntmps95
    go_wp2_with (first | ((with_reducible refine gate_callee (f := 93) rfl ?_); refine goesL_ (some 23) rfl rfl Tryd.func93 (by kernel_rfl) rfl #[.pointer (some ⟨g, 0, none⟩), .int .i64 4] rfl z15 ?_; (with_reducible refine (le_In_fail.calls g s0_0 s0_1 4 t134 (some q136) w0 _ ?side1 ?side2 A14.out).mono ?_); (case side1 => exact z22); (case side2 => exact z40); rintro e w23 ⟨rfl, hi, hb, hk⟩; refine ⟨_, rfl, ?_⟩; have n0_ := Aside0.mk (KeepBut.trans z20 hk (.inl rfl)); have n1_ := Aside0.mk (hb); have n2_ := Aside0.mk (hi); clear HK; clear HB; clear HI0; have HK := n0_; have HB := n1_; have HI0 := n2_; clear n0_ n1_ n2_; (try clear hb); (try clear hb2); (try clear hk); (try clear hi); (try simp only [errW_none, errW_some]); obtain ⟨HGz24, hgz24⟩ := HI0.out; have hcz24_0 := cellS163_0 HGz24; (try simp only [errW_none, errW_some] at hcz24_0); have hcz24_1 := cellS163_1 HGz24; (try simp only [errW_none, errW_some] at hcz24_1); have hfz24_0 := blk_frozen HGz24 0; have hfz24_1 := blk_frozen HGz24 1; clear HGz24 hgz24))
    go_ret
    exact ⟨z21, z22, z40, z20⟩
  ·rw [if_neg c13] at H; have c13b0 : decide ((s0_0.size : Int) < a1) = false := decide_eq_false c13; clear c13; rcases s0_1 with _ | q137
   ·have H1 : (if 0 ≤ a1 then (if a1 ≤ (s0_0.size : Int) then (some (s0_0.extract 0 (a1 : Int).toNat, s0_0.extract (a1 : Int).toNat s0_0.size, none)) else (none)) else (none)) = some (r1, r2, r3) := by rw [if_pos (show (none : Option Int).isNone = true by rfl)] at H; exact H
    clear H; have H := H1; clear H1
    try simp only [errW_none, errW_some]
    by_cases c25 : 0 ≤ a1
    ·rw [if_pos c25] at H; have c25b0 := eq_true c25
     try (have c25sa0 := c25b0; simp only [ByteArray.size_append, Int.natCast_add] at c25sa0)
     have c25b1 : decide (0 ≤ a1) = true := decide_eq_true c25; clear c25
     by_cases c26 : a1 ≤ (s0_0.size : Int)
     ·rw [if_pos c26] at H; have c26b0 := eq_true c26
      try (have c26sa0 := c26b0; simp only [ByteArray.size_append, Int.natCast_add] at c26sa0)
      have c26b1 : decide (a1 ≤ (s0_0.size : Int)) = true := decide_eq_true c26; clear c26; have c27b0 := eq_true (of_decide_eq_true z18 : 0 ≤ a1); have c28b0 := eq_true (of_decide_eq_true z18 : a1 ≤ (s0_0.size : Int)); simp only [Option.some.injEq, Prod.mk.injEq] at H; obtain ⟨rfl, rfl, rfl⟩ := H; obtain ⟨HGz29, hgz29⟩ := HI0.out; have hcz29_0 := cellS163_0 HGz29
      try simp only [errW_none, errW_some] at hcz29_0
      have hcz29_1 := cellS163_1 HGz29
      try simp only [errW_none, errW_some] at hcz29_1
      have hfz29_0 := blk_frozen HGz29 0; have hfz29_1 := blk_frozen HGz29 1; clear HGz29 hgz29; go_enter Tryd.func95, Tryd.ntmps95
      go_wp2
      go_ret
      exact ⟨z21, z22, z40, z20⟩
     ·rw [if_neg c26] at H; exact absurd H (by simp)
    ·rw [if_neg c25] at H; exact absurd H (by simp)
   ·have H1 : (some ((⟨#[]⟩ : ByteArray), s0_0, some q137)) = some (r1, r2, r3) := by rw [if_neg (show ¬ (some q137).isNone = true by simp)] at H; exact H
    clear H; have H := H1; clear H1
    try simp only [errW_none, errW_some]
    simp only [Option.some.injEq, Prod.mk.injEq] at H; obtain ⟨rfl, rfl, rfl⟩ := H; obtain ⟨HGz30, hgz30⟩ := HI0.out; have hcz30_0 := cellS163_0 HGz30
    try simp only [errW_none, errW_some] at hcz30_0
    have hcz30_1 := cellS163_1 HGz30
    try simp only [errW_none, errW_some] at hcz30_1
    have hfz30_0 := blk_frozen HGz30 0; have hfz30_1 := blk_frozen HGz30 1; clear HGz30 hgz30; go_enter Tryd.func95, Tryd.ntmps95
    go_wp2
    go_ret
    exact ⟨z21, z22, z40, z20⟩

/-! ### le_In_Num: function 70 -/
def le_In_Num.j0 : Nat → Int → Bool → ByteArray → Option Int → Option (Int × ByteArray × Option Int)
 | 0, _, _, _, _ => none
 | k + 1, x1, x14, x1000, x1001 => if x14 = true then ((le_In_fail.f x1000 x1001 1).bind fun bt138 => ((le_In_Text.f bt138.1 bt138.2 x1).bind fun bt140 => ((le_Get.f k bt140.1).bind fun t143 => (some (t143, bt140.2.1, bt140.2.2))))) else ((le_In_Text.f x1000 x1001 x1).bind fun bt144 => ((le_Get.f k bt144.1).bind fun t147 => (some (t147, bt144.2.1, bt144.2.2))))
def le_In_Num.f (k : Nat) (s0_0 : ByteArray) (s0_1 : Option Int) (a1 : Int) : Option (Int × ByteArray × Option Int) := if a1 < 1 then (le_In_Num.j0 k a1 true s0_0 s0_1) else (le_In_Num.j0 k a1 (decide (a1 > 7)) s0_0 s0_1)
set_option maxHeartbeats 8000000 in
set_option maxRecDepth 100000 in
theorem le_In_Num.calls (k : Nat) (g : Nat) (s0_0 : ByteArray) (s0_1 : Option Int) (a1 : Int) (r1 : Int) (r2 : ByteArray) (r3 : Option Int) (w0 w : World) (hI : IsS163 w0 w g s0_0 s0_1) (hB : Below w0.heap.size w0 w) (h : le_In_Num.f k s0_0 s0_1 a1 = some (r1, r2, r3)) :
  Calls Tryd.prog 70 #[.pointer (some ⟨g, 0, none⟩), .int .i64 a1] w fun e w' => e = .returned (.int .i64 r1) ∧ IsS163 w0 w' g r2 r3 ∧ Below w0.heap.size w0 w' ∧ KeepBut w w' g none := by
 have HI0 := Aside0.mk hI; have HK := Aside0.mk (KeepBut.refl w g none); have HL := Aside0.mk hB.size; clear hI; have HW0 := Aside0.mk hB.size; have HB := Aside0.mk hB; clear hB; have H : (if a1 < 1 then (le_In_Num.j0 k a1 true s0_0 s0_1) else (le_In_Num.j0 k a1 (decide (a1 > 7)) s0_0 s0_1)) = some (r1, r2, r3) := h; clear h; have HC3 := Aside0.mk H; clear H; go_enter Tryd.func70, Tryd.ntmps70
 go_upto_region 1 with (fail)
 go_cut [14] (fun v14 wc => ∃ (kq : Nat) (x14_2 : Bool), v14 = .bool x14_2 ∧ Aside0 (le_In_Num.j0 kq a1 x14_2 s0_0 s0_1 = some (r1, r2, r3)) ∧ Aside0 (kq ≤ k) ∧ Aside0 (IsS163 w0 wc g s0_0 s0_1) ∧ Aside0 (KeepBut w wc g none) ∧ Aside0 (Below w0.heap.size w0 wc))
 case first =>
  have H := HC3.out; clear HC3
  by_cases c4 : a1 < 1
  ·rw [if_pos c4] at H; have c4b0 : decide (a1 < 1) = true := decide_eq_true c4; clear c4
   (first | rw [c4b0] | (simp only [i64_w, i32_w]; rw [c4b0]) | skip)
   have H' := Aside0.mk H; clear H; go_wp2
   go_meet
   case rel => exact ⟨_, (true), z41, H', ⟨z68⟩, ⟨z22⟩, ⟨z20⟩, ⟨z40⟩⟩
  ·rw [if_neg c4] at H; have c4b0 : decide (a1 < 1) = false := decide_eq_false c4; clear c4
   (first | rw [c4b0] | (simp only [i64_w, i32_w]; rw [c4b0]) | skip)
   have H' := Aside0.mk H; clear H; go_wp2
   go_meet
   case rel => exact ⟨_, (decide (a1 > 7)), z41, H', ⟨z68⟩, ⟨z22⟩, ⟨z20⟩, ⟨z40⟩⟩
 case rest =>
  clear HC3; obtain ⟨kq, x14_2, rfl, HA, HJ2, HI0, HK, HB⟩ := hcut; cases kq with
  | zero => exact absurd HA.out (by simp [le_In_Num.j0])
  | succ kj2 =>
   have H := HA.out; clear HA; simp only [le_In_Num.j0] at H
   by_cases c5 : x14_2 = true
   ·subst c5; have H1 : ((le_In_fail.f s0_0 s0_1 1).bind fun bt138 => ((le_In_Text.f bt138.1 bt138.2 a1).bind fun bt140 => ((le_Get.f kj2 bt140.1).bind fun t143 => (some (t143, bt140.2.1, bt140.2.2))))) = some (r1, r2, r3) := by rw [if_pos rfl] at H; exact H
    clear H; have H := H1; clear H1; replace H := Option.bind_eq_some_iff.mp H; obtain ⟨⟨t138, t139⟩, A60, H⟩ := H; replace H : ((le_In_Text.f t138 t139 a1).bind fun bt140 => ((le_Get.f kj2 bt140.1).bind fun t143 => (some (t143, bt140.2.1, bt140.2.2)))) = some (r1, r2, r3) := H; have A6 := Aside0.mk A60; clear A60; replace H := Option.bind_eq_some_iff.mp H; obtain ⟨⟨t140, t141, t142⟩, A70, H⟩ := H; replace H : ((le_Get.f kj2 t140).bind fun t143 => (some (t143, t141, t142))) = some (r1, r2, r3) := H; have A7 := Aside0.mk A70; clear A70; replace H := Option.bind_eq_some_iff.mp H; obtain ⟨t143, A80, H⟩ := H; replace H : (some (t143, t141, t142)) = some (r1, r2, r3) := H; have A8 := Aside0.mk A80; clear A80; simp only [Option.some.injEq, Prod.mk.injEq] at H; obtain ⟨rfl, rfl, rfl⟩ := H; go_wp2_with (first | ((with_reducible refine gate_callee (f := 93) rfl ?_); refine goesL_ (some 16) rfl rfl Tryd.func93 (by kernel_rfl) rfl #[.pointer (some ⟨g, 0, none⟩), .int .i64 1] rfl z15 ?_; (with_reducible refine (le_In_fail.calls g s0_0 s0_1 1 t138 t139 w0 _ ?side1 ?side2 A6.out).mono ?_); (case side1 => exact z22); (case side2 => exact z40); rintro e w9 ⟨rfl, hi, hb, hk⟩; refine ⟨_, rfl, ?_⟩; have n0_ := Aside0.mk (KeepBut.trans z20 hk (.inl rfl)); have n1_ := Aside0.mk (hb); have n2_ := Aside0.mk (hi); clear HK; clear HB; clear HI0; have HK := n0_; have HB := n1_; have HI0 := n2_; clear n0_ n1_ n2_; (try clear hb); (try clear hb2); (try clear hk); (try clear hi); (try simp only [errW_none, errW_some])) | ((with_reducible refine gate_callee (f := 95) rfl ?_); refine goesL_ (some 19) rfl rfl Tryd.func95 (by kernel_rfl) rfl #[.pointer (some ⟨g, 0, none⟩), .int .i64 a1] rfl z15 ?_; (with_reducible refine (le_In_Text.calls g t138 t139 a1 t140 t141 t142 w0 _ ?side1 ?side2 A7.out).mono ?_); (case side1 => exact z22); (case side2 => exact z40); rintro e w10 ⟨rfl, hi, hb, hk⟩; refine ⟨_, rfl, ?_⟩; have n0_ := Aside0.mk (KeepBut.trans z20 hk (.inl rfl)); have n1_ := Aside0.mk (hb); have n2_ := Aside0.mk (hi); clear HK; clear HB; clear HI0; have HK := n0_; have HB := n1_; have HI0 := n2_; clear n0_ n1_ n2_; (try clear hb); (try clear hb2); (try clear hk); (try clear hi); (try simp only [errW_none, errW_some])) | ((with_reducible refine gate_callee (f := 94) rfl ?_); refine goesL_ (some 20) rfl rfl Tryd.func94 (by kernel_rfl) rfl #[.string t140] rfl z15 ?_; (with_reducible refine (le_Get.calls kj2 t140 t143 _ A8.out).mono ?_); rintro e w' ⟨rfl, ⟨nd, rfl⟩⟩; refine ⟨_, rfl, ?_⟩))
    go_ret
    exact ⟨z21, z22, z40, z20⟩
   ·replace c5 := Bool.eq_false_iff.mpr c5; subst c5; have H1 : ((le_In_Text.f s0_0 s0_1 a1).bind fun bt144 => ((le_Get.f kj2 bt144.1).bind fun t147 => (some (t147, bt144.2.1, bt144.2.2)))) = some (r1, r2, r3) := by rw [if_neg (show ¬ (false = true) by decide)] at H; exact H
    clear H; have H := H1; clear H1; replace H := Option.bind_eq_some_iff.mp H; obtain ⟨⟨t144, t145, t146⟩, A110, H⟩ := H; replace H : ((le_Get.f kj2 t144).bind fun t147 => (some (t147, t145, t146))) = some (r1, r2, r3) := H; have A11 := Aside0.mk A110; clear A110; replace H := Option.bind_eq_some_iff.mp H; obtain ⟨t147, A120, H⟩ := H; replace H : (some (t147, t145, t146)) = some (r1, r2, r3) := H; have A12 := Aside0.mk A120; clear A120; simp only [Option.some.injEq, Prod.mk.injEq] at H; obtain ⟨rfl, rfl, rfl⟩ := H; go_wp2_with (first | ((with_reducible refine gate_callee (f := 95) rfl ?_); refine goesL_ (some 19) rfl rfl Tryd.func95 (by kernel_rfl) rfl #[.pointer (some ⟨g, 0, none⟩), .int .i64 a1] rfl z15 ?_; (with_reducible refine (le_In_Text.calls g s0_0 s0_1 a1 t144 t145 t146 w0 _ ?side1 ?side2 A11.out).mono ?_); (case side1 => exact z22); (case side2 => exact z40); rintro e w13 ⟨rfl, hi, hb, hk⟩; refine ⟨_, rfl, ?_⟩; have n0_ := Aside0.mk (KeepBut.trans z20 hk (.inl rfl)); have n1_ := Aside0.mk (hb); have n2_ := Aside0.mk (hi); clear HK; clear HB; clear HI0; have HK := n0_; have HB := n1_; have HI0 := n2_; clear n0_ n1_ n2_; (try clear hb); (try clear hb2); (try clear hk); (try clear hi); (try simp only [errW_none, errW_some])) | ((with_reducible refine gate_callee (f := 94) rfl ?_); refine goesL_ (some 20) rfl rfl Tryd.func94 (by kernel_rfl) rfl #[.string t144] rfl z15 ?_; (with_reducible refine (le_Get.calls kj2 t144 t147 _ A12.out).mono ?_); rintro e w' ⟨rfl, ⟨nd, rfl⟩⟩; refine ⟨_, rfl, ?_⟩))
    go_ret
    exact ⟨z21, z22, z40, z20⟩
section
-- @GIVEN lib_trim
section
open Go.Shelf
def Tryd.lays160_ren : Go.Shelf.Ren := ⟨fun | 160 => 96 | 232 => 113 | 231 => 112 | 227 => 114 | 234 => 116 | 233 => 115 | 236 => 118 | 235 => 117 | 228 => 131 | 271 => 134 | 151 => 133 | 197 => 132 | 120 => 140 | 152 => 139 | 260 => 138 | 137 => 141 | 119 => 142 | 224 => 143 | 225 => 144 | 217 => 145 | 266 => 146 | n => n, fun | 9 => 9 | 4 => 4 | 3 => 3 | 5 => 5 | 117 => 186 | 116 => 185 | 0 => 0 | 124 => 189 | 21 => 21 | 105 => 202 | 46 => 167 | 119 => 210 | 139 => 213 | 138 => 212 | n => n, fun | 3 => 7 | 4 => 8 | n => n⟩
theorem Tryd.lays160 : Go.Proofs.Lays.n160 Tryd.prog Tryd.lays160_ren := {
  mixed := by kernel_rfl
  f119 := Tryd.func142.trans (congrArg some (by kernel_rfl))
  f120 := Tryd.func140.trans (congrArg some (by kernel_rfl))
  f137 := Tryd.func141.trans (congrArg some (by kernel_rfl))
  f151 := Tryd.func133.trans (congrArg some (by kernel_rfl))
  f152 := Tryd.func139.trans (congrArg some (by kernel_rfl))
  f160 := Tryd.func96.trans (congrArg some (by kernel_rfl))
  f197 := Tryd.func132.trans (congrArg some (by kernel_rfl))
  f217 := Tryd.func145.trans (congrArg some (by kernel_rfl))
  f224 := Tryd.func143.trans (congrArg some (by kernel_rfl))
  f225 := Tryd.func144.trans (congrArg some (by kernel_rfl))
  f227 := Tryd.func114.trans (congrArg some (by kernel_rfl))
  f228 := Tryd.func131.trans (congrArg some (by kernel_rfl))
  f231 := Tryd.func112.trans (congrArg some (by kernel_rfl))
  f232 := Tryd.func113.trans (congrArg some (by kernel_rfl))
  f233 := Tryd.func115.trans (congrArg some (by kernel_rfl))
  f234 := Tryd.func116.trans (congrArg some (by kernel_rfl))
  f235 := Tryd.func117.trans (congrArg some (by kernel_rfl))
  f236 := Tryd.func118.trans (congrArg some (by kernel_rfl))
  f260 := Tryd.func138.trans (congrArg some (by kernel_rfl))
  f266 := Tryd.func146.trans (congrArg some (by kernel_rfl))
  f271 := Tryd.func134.trans (congrArg some (by kernel_rfl))
  t0 := Tryd.underlying0
  a0 := Tryd.isAgg0
  z0 := Tryd.sizeOf0
  v0 := Tryd.zeroValue0
  t3 := Tryd.underlying3
  a3 := Tryd.isAgg3
  z3 := Tryd.sizeOf3
  v3 := Tryd.zeroValue3
  t4 := Tryd.underlying4
  a4 := Tryd.isAgg4
  z4 := Tryd.sizeOf4
  v4 := Tryd.zeroValue4
  t5 := Tryd.underlying5
  a5 := Tryd.isAgg5
  z5 := Tryd.sizeOf5
  v5 := Tryd.zeroValue5
  t9 := Tryd.underlying9
  a9 := Tryd.isAgg9
  z9 := Tryd.sizeOf9
  v9 := Tryd.zeroValue9
  t21 := Tryd.underlying21
  a21 := Tryd.isAgg21
  z21 := Tryd.sizeOf21
  v21 := Tryd.zeroValue21
  t46 := Tryd.underlying167
  a46 := Tryd.isAgg167
  z46 := Tryd.sizeOf167
  v46 := Tryd.zeroValue167
  t105 := Tryd.underlying202
  a105 := Tryd.isAgg202
  z105 := Tryd.sizeOf202
  v105 := Tryd.zeroValue202
  t116 := Tryd.underlying185
  a116 := Tryd.isAgg185
  z116 := Tryd.sizeOf185
  t117 := Tryd.underlying186
  a117 := Tryd.isAgg186
  z117 := Tryd.sizeOf186
  v117 := Tryd.zeroValue186
  t119 := Tryd.underlying210
  a119 := Tryd.isAgg210
  z119 := Tryd.sizeOf210
  t124 := Tryd.underlying189
  a124 := Tryd.isAgg189
  z124 := Tryd.sizeOf189
  v124 := Tryd.zeroValue189
  t138 := Tryd.underlying212
  a138 := Tryd.isAgg212
  z138 := Tryd.sizeOf212
  v138 := Tryd.zeroValue212
  t139 := Tryd.underlying213
  a139 := Tryd.isAgg213
  z139 := Tryd.sizeOf213
  v139 := Tryd.zeroValue213
  g3 := by kernel_rfl
  g4 := by kernel_rfl }
/-- strings.Trim: "Trim returns a slice of the string s with all leading and trailing Unicode code points contained in cutset removed.": AT A cutset OF ONE ASCII BYTE. THE WORLD BEHIND IT: as it was, or (where s is not empty) with ONE DRAW MORE off the tape: the statement 'return trimLeftByte(trimRightByte(s, c), c)' draws its order of evaluation. (LAID: no walk: one application.) -/
theorem Tryd.strings_Trim_one (s : ByteArray) (c : UInt8) (hc : c.toNat < 128) (w : World) (hs : s.size ≤ 9223372036854775807) :
    Calls Tryd.prog 96 #[.string s, .string ⟨#[c]⟩] w fun e w' => e = .returned (.string ⟨(Lib.trimB s.data.toList c).toArray⟩) ∧ (w' = w ∨ w' = w.drew) := Any.strings_Trim_one Tryd.lays160 s c hc w hs
end
end
-- @GIVEN strings_Trim
/-! ### strings_Trim: by hand -/
def strings_Trim.f (s c : ByteArray) : Option ByteArray := if c = ⟨#[0]⟩ ∧ s.size ≤ 9223372036854775807 then some ⟨(Lib.trimB s.data.toList 0).toArray⟩ else none
theorem strings_Trim.calls (s c : ByteArray) (r : ByteArray) (w : World) (h : strings_Trim.f s c = some r) :
    Calls Tryd.prog 96 #[.string s, .string c] w fun e w' => e = .returned (.string r) ∧ Below w.heap.size w w' := by
  unfold strings_Trim.f at h
  split at h
  · rename_i hc
    obtain ⟨rfl, hs⟩ := hc; obtain rfl := Option.some.inj h; refine (Tryd.strings_Trim_one s 0 (by decide) w hs).mono ?_; rintro e w' ⟨rfl, hw⟩; rcases hw with rfl | rfl
    · exact ⟨rfl, Below.refl _ _⟩
    · exact ⟨rfl, (Below.refl _ _).drew⟩
  · cases h
end Go.Proofs.YtegcaniikdibdaaDoor.VPageApart
