/- Contracts of functions of this seat: each call comes to what its Lean function computes; no condition beyond what each theorem states. Printed by a program of this session's own laid over the kit's printer. -/
import Derived.Test.YtofiedgnnpednaaDoorVNvmeRefusesx0
import Derived.Test.YtofiedgnnpednaaDoorVNvmeRefusesx1
import Derived.Test.YtofiedgnnpednaaDoorVNvmeRefusesx2
import Derived.Test.YtofiedgnnpednaaDoorVNvmeRefusesx4
import Derived.Test.YtofiedgnnpednaaDoorVNvmeRefusesx5
import Derived.Test.YtofiedgnnpednaaDoorVNvmeRefusesx7
import Derived.Test.YtofiedgnnpednaaDoorVNvmeRefusesx12
import Derived.Test.YtofiedgnnpednaaDoorVNvmeRefusesx23
import Derived.Test.YtofiedgnnpednaaDoorVNvmeRefusesx24
import Derived.Test.YtofiedgnnpednaaDoorVNvmeRefusesx25
namespace Go.Proofs.YtofiedgnnpednaaDoor.VNvmeRefuses
open Go.RowKit Go.Proofs.YtofiedgnnpednaaDoorW.PrintWords Go.Proofs.YtofiedgnnpednaaDoorW.PrintLast Go.Proofs.YtofiedgnnpednaaDoorW.PrintMore
attribute [local go_sem] max2_int min2_int max_two min_two max_three min_three max_four min_four   -- for this text's walks alone
set_option linter.unusedVariables false
set_option linter.unusedSimpArgs false

-- @GIVEN posthorselaw04_speaks
/-! ### posthorselaw04_speaks: by hand -/
def posthorselaw04_speaks.f : Option Bool := some true
theorem nums0_size (n : Nat) : (strOfNums (List.replicate n 0)).size = n := by
  simp [strOfNums, ByteArray.size]
/-- A short text, filled up. -/
theorem full_eq (a : ByteArray) (h : a.size ≤ 20) : ∃ z, posthorselaw04_full.f a = some (a ++ z) ∧ (a ++ z).size = 512 := by
  refine ⟨strOfNums (List.replicate (512 - a.size) 0), ?_, by rw [ByteArray.size_append, nums0_size]; omega⟩
  have hw : wrap64 (512 - (a.size : Int)) = ((512 - a.size : Nat) : Int) := by unfold wrap64; omega
  unfold posthorselaw04_full.f
  rw [if_neg (by omega), hw, if_pos (by omega), Int.toNat_natCast, if_pos (by omega)]
  simp only [Option.bind_some]
  rw [if_pos (by rw [nums0_size]; omega)]
def spD (q : List NC) : Dev := ⟨4, 8, [], [], q, false, 0, [], 0, 0, 0, 0, 0⟩
theorem sp1 (fa : ByteArray) (h : fa.size = 512) (q : List NC) (hq : q.length < 8) (s : Int) (hs : s = 1 ∨ s = 2) : (spD q).submit ⟨2, s, fa, 0⟩ = (spD (q ++ [⟨2, s, fa, 0⟩]), none) := by
  have h1 : (spD q).ready s = none := by
    rcases hs with rfl | rfl <;> rfl
  have h2 : NC.trim ⟨2, s, fa, 0⟩ = ⟨2, s, fa, 0⟩ := rfl
  unfold Dev.submit
  rw [h2]
  dsimp only
  rw [h1]
  dsimp only
  rw [if_pos (.inl rfl), if_neg (fun e => e h)]
  unfold Dev.enq
  rw [if_neg (by show ¬ (8 : Int) ≤ (q.length : Int); omega)]
  rfl
set_option maxHeartbeats 16000000 in
set_option maxRecDepth 100000 in
theorem posthorselaw04_speaks.calls (r : Bool) (w : World) (h : posthorselaw04_speaks.f = some r) : Calls Tryd.prog 6 #[] w fun e w' => e = .returned (.bool r) ∧ Below w.heap.size w w' := by
  obtain rfl := Option.some.inj h
  clear h
  obtain ⟨za, ha, hsa⟩ := full_eq ⟨#[97]⟩ (by decide)
  obtain ⟨zb, hb, hsb⟩ := full_eq ⟨#[98]⟩ (by decide)
  have hb0 : ((⟨#[98]⟩ : ByteArray) ++ zb).data[0]? = some 98 := by
    rw [ByteArray.data_append, Array.getElem?_append_left (by decide)]
    rfl
  obtain ⟨fa, hfa⟩ : ∃ fa, fa = (⟨#[97]⟩ : ByteArray) ++ za := ⟨_, rfl⟩
  obtain ⟨fb, hfb⟩ : ∃ fb, fb = (⟨#[98]⟩ : ByteArray) ++ zb := ⟨_, rfl⟩
  rw [← hfa] at ha hsa
  rw [← hfb] at hb hsb hb0
  clear hfa hfb
  have HFA := Aside0.mk (fun W => posthorselaw04_full.calls _ _ W ha)
  have HFB := Aside0.mk (fun W => posthorselaw04_full.calls _ _ W hb)
  have HSA := Aside0.mk hsa
  have HSB := Aside0.mk hsb
  have HB0 := Aside0.mk hb0
  clear ha hb hsa hsb hb0
  go_enter Tryd.func6, Tryd.ntmps6
  go_wp2_with (first
    | (go_at_call 7; (with_reducible refine (nNew 4 8 (by decide) (by decide) (by decide) (by decide) w).mono ?_); rintro e w1 ⟨P1, rfl, hd1, hb1⟩; have HD1 := Aside0.mk hd1; have HK1 := Aside0.mk hb1; clear hd1 hb1)
    | (go_at_call 10; (with_reducible refine (HFA.out _).mono ?_); rintro e w2 ⟨rfl, hb2⟩; have HD2 := Aside0.mk (HD1.out.below hb2); have HK2 := Aside0.mk (HK1.out.trans (hb2.mono (Below.size HK1.out))); clear hb2)
    | (go_at_call 12; refine (nSubmit2 P1 (spD []) 1 0 fa w2 w.heap.size (Below.size HK2.out) HD2.out (by decide)).mono ?_; rw [sp1 fa HSA.out [] (by decide) 1 (.inl rfl)]; rintro e w3 ⟨P3, rfl, hd3, hk3⟩; have hp3 := hk3.d; have HD3 := Aside0.mk hd3; have HK3 := Aside0.mk (HK2.out.trans (hk3.below (fun k hk => (HD2.out.lt k hk).1) (Below.size HK2.out))); clear hd3 hk3; dsimp only [List.nil_append] at HD3; simp only [errW_none])
    | fail)
  refine (HFB.out _).mono ?_
  rintro e w4 ⟨rfl, hb4⟩
  have HD4 := Aside0.mk (HD3.out.below hb4)
  have HK4 := Aside0.mk (HK3.out.trans (hb4.mono (Below.size HK3.out)))
  clear hb4
  go_wp2_with (fail)
  have hcall := nSubmit2 P3 (spD [⟨2, 1, fa, 0⟩]) 2 0 fb w4 w.heap.size (Below.size HK4.out) HD4.out (by decide : (1 : Nat) < 1000000000)
  rw [sp1 fb HSB.out [⟨2, 1, fa, 0⟩] (by decide : (1 : Nat) < 8) 2 (.inr rfl), hp3] at hcall
  refine hcall.mono ?_
  clear hcall
  rintro e w5 ⟨P5, rfl, hd5, hk5⟩
  have hp5 := hk5.d.trans hp3
  have HD5 := Aside0.mk hd5
  have HK5 := Aside0.mk (HK4.out.trans (hk5.below (fun k hk => (HD4.out.lt k hk).1) (Below.size HK4.out)))
  clear hd5 hk5
  simp only [errW_none]
  go_wp2_with (fail)
  have hcall := nCompGood2 P5 (spD [⟨2, 1, fa, 0⟩, ⟨2, 2, fb, 0⟩]) 1 ⟨2, 2, fb, 0⟩ w5 w.heap.size (Below.size HK5.out) HD5.out rfl (by decide : (1 : Nat) < 2) rfl (by decide : (0 : Int) ≠ 1) (by decide : (0 : Nat) < 100000000) (by decide : (2 : Nat) < 100000000) rfl (⟨2, 2, fb, 0⟩, ⟨4, 8, [], [⟨2, 2, fb, 0⟩], [⟨2, 1, fa, 0⟩], false, 0, [], 0, 0, 1, 0, 0⟩) (by simp [Dev.tick, spD, Dev.bump, Dev.carry, wrap64]) (by decide : (0 : Int) < 9223372036854775808)
  rw [hp5] at hcall
  refine hcall.mono ?_
  clear hcall
  rintro e w6 ⟨P6, rfl, hd6, hk6⟩
  have hp6 := hk6.d.trans hp5
  have HD6 := Aside0.mk hd6
  have HK6 := Aside0.mk (HK5.out.trans (hk6.below (fun k hk => (HD5.out.lt k hk).1) (Below.size HK5.out)))
  clear hd6 hk6
  dsimp only at HD6 ⊢
  go_wp2_with (fail)
  have hbx := heap_alloc_new w6 (.cells #[.int .i64 2, .int .i64 2, .string fb, .int .i64 0] 38)
  have hnx : ¬ P6.has w6.heap.size := fun e => Nat.lt_irrefl _ (HD6.out.lt _ e).2
  have hks := two_new w6 (.cells #[.int .i64 2, .int .i64 2, .string fb, .int .i64 0] 38) (.cells #[.int .i64 1, .int .i64 0] 3)
  have hbx := blk_alloc hbx (.cells #[.int .i64 1, .int .i64 0] 3)
  have hd7 := (HD6.out.alloc (.cells #[.int .i64 2, .int .i64 2, .string fb, .int .i64 0] 38)).alloc (.cells #[.int .i64 1, .int .i64 0] 3)
  have hB7 := HK6.out.trans (Below.mono (below_alloc (below_alloc (Below.refl _ w6) (.cells #[.int .i64 2, .int .i64 2, .string fb, .int .i64 0] 38)) (.cells #[.int .i64 1, .int .i64 0] 3)) (Below.size HK6.out))
  have hrk : ((w6.alloc (.cells #[.int .i64 2, .int .i64 2, .string fb, .int .i64 0] 38)).alloc (.cells #[.int .i64 1, .int .i64 0] 3)).ownsRow 0 3 1 (.slice (some ⟨w6.heap.size + 1, 0, none⟩) 2 2) 2 (([1, 0] : List Int).map (.int .i64)) :=
    ⟨rfl, .inr ⟨_, 2, _, rfl, Nat.zero_le _, hks, Nat.le_refl _, by decide, rfl, rfl⟩⟩
  have HD7 := Aside0.mk hd7
  have HB7 := Aside0.mk hB7
  have HBX := Aside0.mk hbx
  have HNX := Aside0.mk hnx
  have HRK := Aside0.mk hrk
  have hzx : w6.heap.size < ((w6.alloc (.cells #[.int .i64 2, .int .i64 2, .string fb, .int .i64 0] 38)).alloc (.cells #[.int .i64 1, .int .i64 0] 3)).heap.size := (Array.getElem?_eq_some_iff.1 hbx).1
  have HZX := Aside0.mk hzx
  clear hd7 hB7 hbx hnx hrk hks hzx HD6 HK6
  generalize (w6.alloc (.cells #[.int .i64 2, .int .i64 2, .string fb, .int .i64 0] 38)).alloc (.cells #[.int .i64 1, .int .i64 0] 3) = w7 at HD7 HB7 HBX HRK HZX ⊢
  have hcall := nCrash P6 _ [1, 0] _ w.heap.size 0 w7 (Below.size HB7.out) HD7.out HRK.out (by decide : (1 : Nat) < 100000000) (by decide : (1 : Nat) < 100000000) (by decide : (2 : Nat) < 100000000)
  rw [hp6] at hcall
  refine hcall.mono ?_
  clear hcall
  rintro e w8 ⟨P8, rfl, hd8, hk8⟩
  have hp8 := hk8.d.trans hp6
  have HD8 := Aside0.mk (show DevAt w.heap.size w8 P8 ⟨4, 8, [(2, ⟨2, 2, fb, 0⟩)], [], [], true, 0, [], 0, 0, 1, 0, 0⟩ from hd8)
  have HB8 := Aside0.mk (HB7.out.trans (hk8.below (fun k hk => (HD7.out.lt k hk).1) (Below.size HB7.out)))
  have HBX8 := Aside0.mk ((hk8.block _ HZX.out HNX.out).trans HBX.out)
  have HNX8 := Aside0.mk (hk8.not HZX.out HNX.out)
  clear hd8 hk8
  go_wp2_with (fail)
  have hcall := nDown w.heap.size P8 _ w8 HD8.out
  rw [hp8] at hcall
  refine hcall.mono ?_
  clear hcall
  rintro e w9 ⟨rfl, rfl⟩
  go_wp2_with (fail)
  have hcall := nBoot w.heap.size P8 _ w9 HD8.out
  rw [hp8] at hcall
  refine hcall.mono ?_
  clear hcall
  rintro e w10 ⟨P10, rfl, hd10, hk10⟩
  have hp10 := hk10.d.trans hp8
  have HD10 := Aside0.mk (show DevAt w.heap.size w10 P10 ⟨4, 8, [(2, ⟨2, 2, fb, 0⟩)], [], [], false, 0, [], 0, 0, 1, 0, 0⟩ from hd10)
  have HB10 := Aside0.mk (HB8.out.trans (hk10.below (fun k hk => (HD8.out.lt k hk).1) (Below.size HB8.out)))
  have HBX10 := Aside0.mk ((hk10.block _ (Array.getElem?_eq_some_iff.1 HBX8.out).1 HNX8.out).trans HBX8.out)
  clear hd10 hk10
  go_wp2_with (fail)
  have hcall := nLook P10 _ 1 w10 w.heap.size HD10.out (by decide : (0 : Nat) < 1000000000)
  rw [hp10] at hcall
  refine hcall.mono ?_
  clear hcall
  rintro e w11 ⟨rfl, hb11⟩
  have HD11 := Aside0.mk (HD10.out.below hb11)
  have HB11 := Aside0.mk (HB10.out.trans (hb11.mono (Below.size HB10.out)))
  have HBX11 := Aside0.mk (blk_below HBX10.out hb11)
  rw [show (Dev.look ⟨4, 8, [(2, ⟨2, 2, fb, 0⟩)], [], [], false, 0, [], 0, 0, 1, 0, 0⟩ 1) = (noughts, none) from rfl]
  obtain ⟨nz, hnz⟩ : ∃ nz, nz = noughts := ⟨_, rfl⟩
  rw [← hnz]
  have HN1 := Aside0.mk (show nz.size = 512 by rw [hnz]; simp [noughts, ByteArray.size])
  have HN2 := Aside0.mk (show nz.data[0]? = some 0 by rw [hnz]; simp [noughts])
  clear hnz hb11
  simp only [errW_none]
  go_wp2_with (fail)
  have hcall := nLook P10 _ 2 w11 w.heap.size HD11.out (by decide : (0 : Nat) < 1000000000)
  rw [hp10] at hcall
  refine hcall.mono ?_
  clear hcall
  rintro e w12 ⟨rfl, hb12⟩
  have HB12 := Aside0.mk (HB11.out.trans (hb12.mono (Below.size HB11.out)))
  have hbx12 := blk_below HBX11.out hb12
  have x1 := (blk_cell hbx12 1).trans rfl
  rw [show (Dev.look ⟨4, 8, [(2, ⟨2, 2, fb, 0⟩)], [], [], false, 0, [], 0, 0, 1, 0, 0⟩ 2) = (fb, none) from rfl]
  simp only [errW_none]
  have m1 : ((nz.size : Int) == 512) = true := by rw [HN1.out]; rfl
  have l1 : 0 < nz.size := by rw [HN1.out]; decide
  have l2 : 0 < fb.size := by rw [HSB.out]; decide
  have m2 : nz[0]'l1 = 0 := (Array.getElem?_eq_some_iff.1 HN2.out).2
  have m3 : fb[0]'l2 = 98 := (Array.getElem?_eq_some_iff.1 HB0.out).2
  have m4 : (((nz[0]'l1).toNat : Int) == 0) = true := by rw [m2]; rfl
  have m5 : (((fb[0]'l2).toNat : Int) == 98) = true := by rw [m3]; rfl
  have m6 := HN1.out
  have m7 := HSB.out
  clear hb12 m2 m3
  go_wp2_with (fail)
  go_ret
  exact ⟨rfl, HB12.out⟩


end Go.Proofs.YtofiedgnnpednaaDoor.VNvmeRefuses
