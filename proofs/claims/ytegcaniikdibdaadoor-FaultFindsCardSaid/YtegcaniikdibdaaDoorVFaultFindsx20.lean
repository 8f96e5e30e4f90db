/- Contracts of functions of this seat: each call comes to what its Lean function computes; no condition beyond what each theorem states. Printed by a program of this session's own laid over the kit's printer. -/
import Derived.Test.YtegcaniikdibdaaDoorVFaultFindsx0
import Derived.Test.YtegcaniikdibdaaDoorVFaultFindsx1
import Derived.Test.YtegcaniikdibdaaDoorVFaultFindsx4
import Derived.Test.YtegcaniikdibdaaDoorVFaultFindsx12
import Derived.Test.YtegcaniikdibdaaDoorVFaultFindsx14
import Derived.Test.YtegcaniikdibdaaDoorVFaultFindsx15
import Derived.Test.YtegcaniikdibdaaDoorVFaultFindsx18
import Derived.Test.YtegcaniikdibdaaDoorVFaultFindsx19
namespace Go.Proofs.YtegcaniikdibdaaDoor.VFaultFinds
open Go.RowKit Go.Proofs.YtegcaniikdibdaaDoorW.PrintWords Go.Proofs.YtegcaniikdibdaaDoorW.PrintLast Go.Proofs.YtegcaniikdibdaaDoorW.PrintMore
attribute [local go_sem] max2_int min2_int max_two min_two max_three min_three max_four min_four   -- for this text's walks alone
set_option linter.unusedVariables false
set_option linter.unusedSimpArgs false

-- @GIVEN posthorselaw02_FaultFinds
/-! ### posthorselaw02_FaultFinds: by hand -/
/-- The steps that wrap. -/
def wrapsF (l : List StepS) : List StepS := (l.take 10).filter fun s => !s.f3
def keyF (s : StepS) : ByteArray × Int := (cutO s.f0, s.f1)
theorem innerA_or (q : Option (ByteArray × Int)) (e : Er) : e.innerA q = (e.innerA none).or q := by
  induction e generalizing q with
  | num n => rfl
  | wrap o p e ih => show e.innerA (some (o, p)) = (e.innerA (some (o, p))).or q; rw [ih (some (o, p))]; cases e.innerA none <;> rfl
  | many e l ih => exact ih q
theorem inner_fold (l : List StepS) : ∀ (e : Er), (l.foldl stepE e).innerA none = (e.innerA none).or ((l.filter fun s => !s.f3).head?.map keyF) := by
  induction l with
  | nil => intro e; simp
  | cons s l ih =>
    intro e
    rw [List.foldl_cons, ih]
    by_cases h : s.f3 = true
    · have h1 : stepE e s = .many e [nM s.f2] := by unfold stepE; rw [if_pos h]
      rw [h1, List.filter_cons_of_neg (by simp [h])]
      rfl
    · have h1 : stepE e s = .wrap (cutO s.f0) s.f1 e := by unfold stepE; rw [if_neg h]
      rw [h1, List.filter_cons_of_pos (by simp [h])]
      show (e.innerA (some (cutO s.f0, s.f1))).or _ = _
      rw [innerA_or]
      cases e.innerA none <;> simp [keyF]
theorem outer_fold (l : List StepS) : ∀ (e : Er), (l.foldl stepE e).outer = ((l.filter fun s => !s.f3).getLast?.map keyF).or e.outer := by
  induction l with
  | nil => intro e; simp
  | cons s l ih =>
    intro e
    rw [List.foldl_cons, ih]
    by_cases h : s.f3 = true
    · have h1 : stepE e s = .many e [nM s.f2] := by unfold stepE; rw [if_pos h]
      rw [h1, List.filter_cons_of_neg (by simp [h])]
      rfl
    · have h1 : stepE e s = .wrap (cutO s.f0) s.f1 e := by unfold stepE; rw [if_neg h]
      rw [h1, List.filter_cons_of_pos (by simp [h]), List.getLast?_cons]
      show _ = _
      cases (l.filter fun s => !s.f3).getLast? <;> simp [Er.outer, keyF]
theorem two_fold (l : List StepS) : ∀ (e : Er), e.two → (l.foldl stepE e).two := by
  induction l with
  | nil => intro e h; exact h
  | cons s l ih =>
    intro e h
    rw [List.foldl_cons]
    refine ih _ ?_
    unfold stepE
    split
    · exact ⟨rfl, h⟩
    · exact h
theorem madeE_inner (n : Int) (l : List StepS) : (madeE n l).innerA none = (wrapsF l).head?.map keyF := by
  unfold madeE wrapsF
  rw [inner_fold]
  rfl
theorem madeE_outer (n : Int) (l : List StepS) : (madeE n l).outer = (wrapsF l).getLast?.map keyF := by
  unfold madeE wrapsF
  rw [outer_fold]
  cases ((l.take 10).filter fun s => !s.f3).getLast? <;> rfl
theorem wraps_snoc (l : List StepS) (j : Nat) (h : j < l.length) : (l.take (j + 1)).filter (fun s => !s.f3) = (l.take j).filter (fun s => !s.f3) ++ (if (rd_T24 l (j : Int)).f3 = true then [] else [rd_T24 l (j : Int)]) := by
  rw [List.take_add_one, List.getElem?_eq_getElem h, List.filter_append]
  have : rd_T24 l (j : Int) = l[j] := by unfold rd_T24; simp [h]
  rw [this]
  congr 1
  by_cases h2 : l[j].f3 = true <;> simp [h2]
/-- errors.As into a box of one's own. -/
theorem as_box (e : Er) (v : Value) (g : Nat) (w : World) (hL : Laid w) (hg : w.heap[g]? = some (.cells #[.pointer none] 37 (0, 0))) (h2 : e.two) (h : ErV w v e) :
    Calls Tryd.prog 21 #[v, .iface 65 (.pointer (some ⟨g, 0, none⟩))] w fun r w' => r = .returned (.bool e.outer.isSome) ∧ w.grownBy w' (some g) ∧ ∃ p, w'.heap[g]? = some (.cells #[.pointer p] 37 (0, 0)) ∧ ∀ z, e.outer = some z → ∃ k v1, p = some ⟨k, 0, none⟩ ∧ w'.heap[k]? = some (.cells #[.string z.1, .int .i64 z.2, v1] 39 (0, 0)) := by
  refine (asF_tree e v ⟨g, 0, none⟩ (.pointer none) w (Laid.errorType hL) ((blk_cell hg 0).trans rfl) (blk_frozen hg 0) h2 h).mono ?_
  intro r w' hp
  cases he : e.outer with
  | none =>
    rw [he] at hp
    obtain ⟨rfl, hb⟩ := hp
    exact ⟨rfl, ⟨hb.os, hb.tape, hb.output, hb.size, fun k hk _ => hb.block k hk⟩, none, blk_below hg hb, fun z hz => by cases hz⟩
  | some q =>
    rw [he] at hp
    obtain ⟨W1, k, v1, rfl, hb, rfl, hk⟩ := hp
    have hg1 := blk_below hg hb
    refine ⟨rfl, gr5_set ⟨hb.os, hb.tape, hb.output, hb.size, fun k hk _ => hb.block k hk⟩ 0 _, some ⟨k, 0, none⟩, by have h_ := blk_set hg1 0 (.pointer (some ⟨k, 0, none⟩)); simpa using h_, fun z hz => ⟨k, v1, rfl, ?_⟩⟩
    cases hz
    exact (Below.heap_setCell W1 ⟨g, 0, none⟩ _ k (blk_ne hk hg1 (by decide))).trans hk
def put4 (W : World) (g : Nat) (a b c d : Value) : World := (((W.setCell ⟨g, 0, none⟩ a).setCell ⟨g, 1, none⟩ b).setCell ⟨g, 2, none⟩ c).setCell ⟨g, 3, none⟩ d
theorem put4_blk {W : World} {g : Nat} {a b c d a' b' c' d' : Value} {T : TypeId} (h : W.heap[g]? = some (.cells #[a, b, c, d] T (0, 0))) : (put4 W g a' b' c' d').heap[g]? = some (.cells #[a', b', c', d'] T (0, 0)) := by
  unfold put4
  simp [World.setCell, Array.getElem?_modify, h]
theorem put4_gr (W : World) (g : Nat) (a b c d : Value) : W.grownBy (put4 W g a b c d) (some g) := gr5_set (gr5_set (gr5_set (gr5_set (World.grownBy.refl W _) 0 a) 1 b) 2 c) 3 d
theorem put3_gr (W : World) (g : Nat) (a b c : Value) : W.grownBy (put3 W g a b c) (some g) := gr5_set (gr5_set (gr5_set (World.grownBy.refl W _) 0 a) 1 b) 2 c
theorem grown_far {B : Nat} {a w w' : World} {g : Nat} (h : Below B a w) (hg : w.grownBy w' (some g)) (hB : B ≤ w.heap.size) (hr : B ≤ g) : Below B a w' := h.grown hg hB (fun k e => by have := Option.some.inj e; omega)
theorem cell_gr {W W' : World} {g : Nat} {p : Addr} {v : Value} (h : W.cell? p = some v) (hg : W.grownBy W' (some g)) (hne : p.block ≠ g) : W'.cell? p = some v := (World.cell?_of_block (w := W) (hg.block _ (World.block_lt_of_cell? W p h) (fun e => hne (Option.some.inj e)))).trans h
def encS (s : StepS) : Array Value := #[.string s.f0, .int .i64 s.f1, .int .i64 s.f2, .bool s.f3]
def ff.T18 : Bool × List (List Nat × List Nat) := (true, [([], []), ([0], [0]), ([1], [1]), ([2], [2]), ([3, 2], [2, 3]), ([2], [2]), ([5, 2], [2, 5]), ([2], [2]), ([7, 2], [2, 7]), ([8, 2], [2, 8]), ([9, 2], [2, 9]), ([6, 10, 2], [2, 6, 10]), ([4, 11, 2], [2, 4, 11]), ([12, 2, 2], [2, 12]), ([13], [13]), ([14, 13], [13, 14]), ([13], [13]), ([16, 13], [13, 16]), ([15, 17, 13], [13, 15, 17]), ([13, 18, 2], [2, 13, 18]), ([19, 13, 2], [2, 19]), ([20], [20]), ([21, 20], [20, 21]), ([22, 20], [20, 22]), ([23, 20], [20, 23]), ([20], [20]), ([25, 20], [20, 25]), ([20], [20]), ([27, 20], [20, 27]), ([28, 20], [20, 28]), ([29, 20], [20, 29]), ([26, 30, 20], [20, 26, 30]), ([24, 31, 20], [20, 24, 31]), ([20, 32, 2], [2, 20, 32]), ([33, 20, 2], [2, 33]), ([34], [34]), ([35, 34], [34, 35]), ([36, 34], [34, 36]), ([37, 34], [34, 37]), ([34], [34]), ([39, 34], [34, 39]), ([38, 40, 34], [34, 38, 40]), ([34, 41, 2], [2, 34, 41]), ([2, 42], [2, 42]), ([43, 34, 0, 1, 2, 3, 4, 5, 6, 7, 8, 9, 10, 11, 12, 13, 14, 15, 16, 17, 18, 19, 20, 21, 22, 23, 24, 25, 26, 27, 28, 29, 30, 31, 32, 33, 34, 35, 36, 37, 38, 39, 40, 41, 42, 43], [43])])
def ff.B18 : List Nat := [0, 1, 3, 7, 15, 7, 39, 7, 135, 391, 903, 2023, 4095, 8191, 16383, 32767, 16383, 81919, 262143, 524287, 1048575, 2097151, 4194303, 8388607, 16777215, 2097151, 35651583, 2097151, 136314879, 404750335, 941621247, 2116026367, 4294967295, 8589934591, 17179869183, 34359738367, 68719476735, 137438953471, 274877906943, 34359738367, 584115552255, 2199023255551, 4398046511103, 8796093022207, 17592186044415]
theorem ff.tab18 : rtab .any (opsOf Tryd.f7 18) = ff.T18 := by kernel_rfl
theorem ff.bits18 : waitsOk ff.T18.2 ff.B18 = true := by kernel_rfl
def posthorselaw02_FaultFinds.f (_ : Int) (_ : List StepS) : Option Bool := some true
set_option maxHeartbeats 8000000 in
set_option maxRecDepth 100000 in
theorem posthorselaw02_FaultFinds.calls (a0 : Int) (A1 : Option Addr) (c1 : Nat) (l1 : List StepS) (r : Bool) (w : World) (hL_ : Laid w) (hr1 : Kd.C k24 w A1 l1.length l1) (hc1 : l1.length ≤ c1) (h : posthorselaw02_FaultFinds.f a0 l1 = some r) :
    Calls Tryd.prog 7 #[.int .i64 a0, .slice A1 l1.length c1] w fun e w' => e = .returned (.bool r) ∧ Below w.heap.size w w' := by
  have HL_ := Aside0.mk hL_
  clear hL_
  obtain rfl := Option.some.inj h
  have HR := Aside0.mk hr1
  have HSP := Aside0.mk (show posthorselaw02_speaks.f = some true from rfl)
  have H2 := Aside0.mk (show (madeE a0 l1).two from two_fold _ _ trivial)
  have HIN := Aside0.mk (madeE_inner a0 l1)
  have HOU := Aside0.mk (madeE_outer a0 l1)
  clear h hr1 hc1
  obtain ⟨E, hE⟩ : ∃ E, E = madeE a0 l1 := ⟨_, rfl⟩
  have HE := Aside0.mk hE
  rw [← hE] at H2 HIN HOU
  clear hE
  go_enter Tryd.func7, Tryd.ntmps7
  go_upto_region 4 with (first
    | (go_at_call 10; (with_reducible refine (posthorselaw02_speaks.calls true _ HL_.out HSP.out).mono ?_); rintro e w1 ⟨rfl, hb1⟩; have HB1 := Aside0.mk hb1; clear hb1)
    | (go_at_call 11; go_loud (refine (made_calls a0 l1 A1 c1 _ (Kd.C_below HR.out HB1.out)).mono ?_; rw [← HE.out]; rintro e w2 ⟨v, k, ta, n, op, sl, rfl, hv2, hn2, hb2⟩; obtain ⟨sA, sn, sc, rfl⟩ := hn2.slice; have HV2 := Aside0.mk hv2; have HB2 := Aside0.mk (below_step HB1.out hb2); clear hv2 hn2 hb2 HB1))
    | ((with_reducible refine gate_dst (N := 6) rfl ?_); refine box_event ?hg (N := 6) ?hd (cs := #[.int .i64 0, .int .i64 0, .int .i64 0, .string ⟨#[]⟩, .slice none 0 0]) (t := 30) ?hr ?_; (case hd => rfl); (case hg => rfl); (case hr => first | (go_simp; done) | (go_simp; rfl)); intro g6 hg6 w6 hbox hb; have HG6 := Aside0.mk (show w.heap.size ≤ g6 by rw [hg6]; exact HB2.out.size); have HX6 := Aside0.mk hbox; have HV6 := Aside0.mk (HV2.out.below hb); have HB6 := Aside0.mk (below_step HB2.out hb); have hq0 := (blk_cell hbox 0).trans rfl; have hq1 := (blk_cell hbox 1).trans rfl; have hq2 := (blk_cell hbox 2).trans rfl; have hq3 := (blk_cell hbox 3).trans rfl; have hq4 := (blk_cell hbox 4).trans rfl; have hf0 := blk_frozen hbox 0; have hf1 := blk_frozen hbox 1; have hf2 := blk_frozen hbox 2; have hf3 := blk_frozen hbox 3; have hf4 := blk_frozen hbox 4; clear hg6 hbox hb HB2 HV2))
  clear hq0 hq1 hq2 hq3 hq4 hf0 hf1 hf2 hf3 hf4
  obtain ⟨w8, hw8⟩ : ∃ w8, w8 = put5 w6 g6 (.int .i64 k) (.int .i64 ta) (.int .i64 n) (.string op) (.slice sA sn sc) := ⟨_, rfl⟩
  have hg8 := put5_gr w6 g6 (.int .i64 k) (.int .i64 ta) (.int .i64 n) (.string op) (.slice sA sn sc)
  rw [← hw8] at hg8
  have HB8 := Aside0.mk (grown_far HB6.out hg8 HB6.out.size HG6.out)
  have HV8 := Aside0.mk (ErV.over hg8 HX6.out (by decide) (by decide) HV6.out)
  unfold put5 at hw8
  rw [← hw8]
  clear hw8 hg8 HB6 HV6 HX6
  go_upto_region 7 with (first
    | ((with_reducible refine gate_dst (N := 7) rfl ?_); refine box_event ?hg (N := 7) ?hd (cs := #[.pointer none]) (t := 37) ?hr ?_; (case hd => rfl); (case hg => rfl); (case hr => first | (go_simp; done) | (go_simp; rfl)); intro g7 hg7 w9 hbox hb; have HG7 := Aside0.mk (show w.heap.size ≤ g7 by rw [hg7]; exact HB8.out.size); have HX9 := Aside0.mk hbox; have HV9 := Aside0.mk (HV8.out.below hb); have HB9 := Aside0.mk (below_step HB8.out hb); clear hg7 hbox hb)
    | (go_at_call 21; refine (as_box E v g7 _ (Laid.below HL_.out HB9.out) HX9.out H2.out HV9.out).mono ?_; rintro r w10 ⟨rfl, hg10, p7, hx7, hf7⟩; have HB10 := Aside0.mk (grown_far HB9.out hg10 HB9.out.size HG7.out); have HV10 := Aside0.mk (ErV.over hg10 HX9.out (by decide) (by decide) HV9.out); have HX10 := Aside0.mk hx7; have HF10 := Aside0.mk hf7; clear hg10 hx7 hf7)
    | (go_at_call 23; refine (find_tree E v _ H2.out HV10.out).mono ?_; rintro r w11 ⟨fop, fpl, fev, rfl, hq, hev, hb11⟩; have HB11 := Aside0.mk (below_step HB10.out hb11); have HX11 := Aside0.mk (blk_below HX10.out hb11); have HF11 := Aside0.mk (fun z hz => by obtain ⟨k, v1, h1, h2⟩ := HF10.out z hz; exact (⟨k, v1, h1, blk_below h2 hb11⟩ : ∃ k v1, p7 = some ⟨k, 0, none⟩ ∧ w11.heap[k]? = some (.cells #[.string z.1, .int .i64 z.2, v1] 39 (0, 0)))); have HQ := Aside0.mk hq; have HEV := Aside0.mk hev; clear hb11 hq hev)
    | ((with_reducible refine gate_dst (N := 9) rfl ?_); refine box_event ?hg (N := 9) ?hd (cs := #[.string ⟨#[]⟩, .int .i64 0, .nilIface]) (t := 39) ?hr ?_; (case hd => rfl); (case hg => rfl); (case hr => first | (go_simp; done) | (go_simp; rfl)); intro g9 hg9 w12 hbox hb; have HG9 := Aside0.mk (show w.heap.size ≤ g9 ∧ g7 ≠ g9 from ⟨by rw [hg9]; exact HB11.out.size, by rw [hg9]; exact Nat.ne_of_lt (blk_lt HX11.out)⟩); have HX12 := Aside0.mk (blk_below HX11.out hb); have HY12 := Aside0.mk hbox; have HF12 := Aside0.mk (fun z hz => by obtain ⟨k, v1, h1, h2⟩ := HF11.out z hz; exact (⟨k, v1, h1, by rw [hg9]; exact Nat.ne_of_lt (blk_lt h2), blk_below h2 hb⟩ : ∃ k v1, p7 = some ⟨k, 0, none⟩ ∧ k ≠ g9 ∧ w12.heap[k]? = some (.cells #[.string z.1, .int .i64 z.2, v1] 39 (0, 0)))); have HB12 := Aside0.mk (below_step HB11.out hb); have hq0 := (blk_cell hbox 0).trans rfl; have hq1 := (blk_cell hbox 1).trans rfl; have hq2 := (blk_cell hbox 2).trans rfl; have hf0 := blk_frozen hbox 0; have hf1 := blk_frozen hbox 1; have hf2 := blk_frozen hbox 2; clear hg9 hbox hb)
    | ((with_reducible refine gate_store (t := 39) (p := 9) rfl ?_); refine store_event (t := 39) (p := 9) (v := ?vo_) (w1 := put3 w12 g9 (.string fop) (.int .i64 fpl) fev) ?hg ?ho ?hn ?hr ?_; (case ho => rfl); (case hg => rfl); (case hn => rfl); (case hr => unfold put3; rcases HEV.out with rfl | ⟨te_, xe_, rfl⟩ <;> first | (go_simp; done) | (go_simp; rfl)); intro w13 hw13; have hg13 := put3_gr w12 g9 (.string fop) (.int .i64 fpl) fev; have hy13 := put3_blk (a' := .string fop) (b' := .int .i64 fpl) (c' := fev) HY12.out; rw [← hw13] at hg13 hy13; have HB13 := Aside0.mk (grown_far HB12.out hg13 HB12.out.size HG9.out.1); have HX13 := Aside0.mk (blk_gr5 HX12.out hg13 HG9.out.2); have HY13 := Aside0.mk hy13; have HF13 := Aside0.mk (fun z hz => by obtain ⟨k, v1, h1, h2, h3⟩ := HF12.out z hz; exact (⟨k, v1, h1, blk_gr5 h3 hg13 h2⟩ : ∃ k v1, p7 = some ⟨k, 0, none⟩ ∧ w13.heap[k]? = some (.cells #[.string z.1, .int .i64 z.2, v1] 39 (0, 0)))); clear hw13 hg13 hy13))
  clear hq0 hq1 hq2 hf0 hf1 hf2
  clear HB12 HX12 HY12 HF12 HB11 HX11 HF11 HB10 HX10 HF10 HV10 HB9 HX9 HV9 HB8 HV8
  go_upto_region 8 with (first
    | ((with_reducible refine gate_dst (N := 11) rfl ?_); refine box_event ?hg (N := 11) ?hd (cs := #[.string ⟨#[]⟩, .int .i64 0, .int .i64 0, .bool false]) (t := 24) ?hr ?_; (case hd => rfl); (case hg => rfl); (case hr => first | (go_simp; done) | (go_simp; rfl)); intro g11 hg11 w14 hbox hb; have HG11 := Aside0.mk (show w.heap.size ≤ g11 ∧ g7 ≠ g11 ∧ g9 ≠ g11 from ⟨by rw [hg11]; exact HB13.out.size, by rw [hg11]; exact Nat.ne_of_lt (blk_lt HX13.out), by rw [hg11]; exact Nat.ne_of_lt (blk_lt HY13.out)⟩); have HX14 := Aside0.mk (blk_below HX13.out hb); have HY14 := Aside0.mk (blk_below HY13.out hb); have HI14 := Aside0.mk hbox; have HF14 := Aside0.mk (fun z hz => by obtain ⟨k, v1, h1, h3⟩ := HF13.out z hz; exact (⟨k, v1, h1, blk_below h3 hb⟩ : ∃ k v1, p7 = some ⟨k, 0, none⟩ ∧ w14.heap[k]? = some (.cells #[.string z.1, .int .i64 z.2, v1] 39 (0, 0)))); have HB14 := Aside0.mk (below_step HB13.out hb); clear hg11 hbox hb)
    | ((with_reducible refine gate_dst (N := 12) rfl ?_); refine box_event ?hg (N := 12) ?hd (cs := #[.string ⟨#[]⟩, .int .i64 0, .int .i64 0, .bool false]) (t := 24) ?hr ?_; (case hd => rfl); (case hg => rfl); (case hr => first | (go_simp; done) | (go_simp; rfl)); intro g12 hg12 w15 hbox hb; have HG12 := Aside0.mk (show w.heap.size ≤ g12 ∧ g7 ≠ g12 ∧ g9 ≠ g12 ∧ g11 ≠ g12 from ⟨by rw [hg12]; exact HB14.out.size, by rw [hg12]; exact Nat.ne_of_lt (blk_lt HX14.out), by rw [hg12]; exact Nat.ne_of_lt (blk_lt HY14.out), by rw [hg12]; exact Nat.ne_of_lt (blk_lt HI14.out)⟩); have HX15 := Aside0.mk (blk_below HX14.out hb); have HY15 := Aside0.mk (blk_below HY14.out hb); have HI15 := Aside0.mk (blk_below HI14.out hb); have HO15 := Aside0.mk hbox; have HF15 := Aside0.mk (fun z hz => by obtain ⟨k, v1, h1, h3⟩ := HF14.out z hz; exact (⟨k, v1, h1, blk_below h3 hb⟩ : ∃ k v1, p7 = some ⟨k, 0, none⟩ ∧ w15.heap[k]? = some (.cells #[.string z.1, .int .i64 z.2, v1] 39 (0, 0)))); have HB15 := Aside0.mk (below_step HB14.out hb); clear hg12 hbox hb))
  clear HX13 HY13 HF13 HB13 HX14 HY14 HI14 HF14 HB14
  go_wp2
  go_loopg [13, 14] (l1.length + 1) (fun kq v13 v14 w' => ∃ (j : Nat) (x : List StepS), v13 = .bool (!x.isEmpty) ∧ v14 = .int .i64 (j : Int) ∧ Aside0 (kq = l1.length + 1 - j ∧ j ≤ l1.length ∧ j ≤ 10) ∧ Aside0 (x = (l1.take j).filter fun s => !s.f3) ∧ Aside0 (w'.heap[g7]? = some (.cells #[.pointer p7] 37 (0, 0))) ∧ Aside0 (w'.heap[g9]? = some (.cells #[.string fop, .int .i64 fpl, fev] 39 (0, 0))) ∧ Aside0 (w'.heap[g11]? = some (.cells (encS (x.head?.getD z24)) 24 (0, 0))) ∧ Aside0 (w'.heap[g12]? = some (.cells (encS (x.getLast?.getD z24)) 24 (0, 0))) ∧ Aside0 (∀ z, E.outer = some z → ∃ k v1, p7 = some ⟨k, 0, none⟩ ∧ w'.heap[k]? = some (.cells #[.string z.1, .int .i64 z.2, v1] 39 (0, 0))) ∧ Aside0 (Below w.heap.size w w'))
  case atStart => exact ⟨0, [], rfl, rfl, ⟨by omega, by omega, by omega⟩, ⟨rfl⟩, HX15, HY15, HI15, HO15, HF15, HB15⟩
  case round =>
    clear HX15 HY15 HI15 HO15 HF15 HB15
    obtain ⟨j, x, hs13, hs14, HJ, HW, HX, HY, HI, HO, HF, HB⟩ := hrel
    subst hs13 hs14
    have hkj := HJ.out
    by_cases hlt : j < l1.length ∧ j < 10
    · obtain ⟨hlt, hl10⟩ := hlt
      have d1 : decide ((j : Int) < (l1.length : Int)) = true := decide_eq_true (by omega)
      have d2 : decide ((j : Int) < 10) = true := decide_eq_true (by omega)
      have d3 : decide (j < l1.length) = true := decide_eq_true hlt
      have d4 : decide (j < 10) = true := decide_eq_true hl10
      have p0 := eq_true (show (0 : Int) ≤ (j : Int) by omega)
      have p1 := eq_true (show (j : Int) < (l1.length : Int) by omega)
      have p2 := eq_true hlt
      have HI1 := Aside0.mk (show wrap64 ((j : Int) + 1) = ((j + 1 : Nat) : Int) by unfold wrap64; omega)
      have HJ1 := Aside0.mk (show j + 1 ≤ l1.length ∧ j + 1 ≤ 10 by omega)
      obtain ⟨ad, rfl, hx0, hx1, hx2, hx3⟩ := at_T24 HR.out (j : Int) (by omega) (by omega)
      rw [show ((j : Int)).toNat = j from rfl] at hx0 hx1 hx2 hx3
      have hal := World.block_lt_of_cell? w _ hx0
      replace hx0 := (HB.out.cell (World.block_lt_of_cell? w _ hx0)).trans hx0
      replace hx1 := (HB.out.cell (World.block_lt_of_cell? w _ hx1)).trans hx1
      replace hx2 := (HB.out.cell (World.block_lt_of_cell? w _ hx2)).trans hx2
      replace hx3 := (HB.out.cell (World.block_lt_of_cell? w _ hx3)).trans hx3
      have ha1 := eq_false (show ¬ ((ad.add (j * 4)).block = g11) by have := HG11.out.1; omega)
      have ha2 := eq_false (show ¬ (g11 = (ad.add (j * 4)).block) by have := HG11.out.1; omega)
      have ha3 : (ad.add (j * 4)).block ≠ g11 := by have := HG11.out.1; omega
      clear hal
      have HS := Aside0.mk (wraps_snoc l1 j hlt)
      rw [← HW.out] at HS
      generalize rd_T24 l1 (j : Int) = s at hx0 hx1 hx2 hx3 HS
      clear hkj HW
      cases hf : s.f3 with
      | true =>
        have hs2 := HS.out
        rw [if_pos hf, List.append_nil] at hs2
        have HS2 := Aside0.mk hs2
        rw [hf] at hx3
        clear HS hs2
        go_wp2_with fail
        go_roundg (l1.length + 1 - (j + 1))
        case measure => have h1_ := HJ1.out; have h2_ := HJ.out; omega
        case rel => exact ⟨j + 1, x, rfl, by first | rfl | (rw [HI1.out]), ⟨rfl, HJ1.out.1, HJ1.out.2⟩, ⟨HS2.out.symm⟩, HX, HY, HI, HO, HF, HB⟩
      | false =>
        have hs2 := HS.out
        rw [if_neg (by rw [hf]; decide)] at hs2
        have HS2 := Aside0.mk hs2
        have HSS := Aside0.mk (show encS s = #[.string s.f0, .int .i64 s.f1, .int .i64 s.f2, .bool false] by unfold encS; rw [hf])
        rw [hf] at hx3
        clear HS hs2
        have ho : wr.heap[g12]? = some (.cells #[.string (x.getLast?.getD z24).f0, .int .i64 (x.getLast?.getD z24).f1, .int .i64 (x.getLast?.getD z24).f2, .bool (x.getLast?.getD z24).f3] 24 (0, 0)) := HO.out
        have hi : wr.heap[g11]? = some (.cells #[.string (x.head?.getD z24).f0, .int .i64 (x.head?.getD z24).f1, .int .i64 (x.head?.getD z24).f2, .bool (x.head?.getD z24).f3] 24 (0, 0)) := HI.out
        have HOO := Aside0.mk ho
        have HII := Aside0.mk hi
        generalize x.getLast?.getD z24 = yl at ho HOO
        generalize x.head?.getD z24 = yh at hi HII
        have o0 := (blk_cell ho 0).trans rfl
        have o1 := (blk_cell ho 1).trans rfl
        have o2 := (blk_cell ho 2).trans rfl
        have o3 := (blk_cell ho 3).trans rfl
        have u0 := blk_frozen ho 0
        have u1 := blk_frozen ho 1
        have u2 := blk_frozen ho 2
        have u3 := blk_frozen ho 3
        have i0 := (blk_cell hi 0).trans rfl
        have i1 := (blk_cell hi 1).trans rfl
        have i2 := (blk_cell hi 2).trans rfl
        have i3 := (blk_cell hi 3).trans rfl
        have y0 := blk_frozen hi 0
        have y1 := blk_frozen hi 1
        have y2 := blk_frozen hi 2
        have y3 := blk_frozen hi 3
        have HNE1 := Aside0.mk HG12.out.2.2.2
        have hne := HG12.out.2.2.2
        have hne2 := HG12.out.2.2.2.symm
        clear ho hi
        cases x with
        | nil =>
          have hbb : (!([] : List StepS).isEmpty) = false := rfl
          rw [hbb]
          clear hbb
          go_upto_region 15 with (fail)
          obtain ⟨wq, hwq⟩ : ∃ wq, wq = put4 wr g11 (.string s.f0) (.int .i64 s.f1) (.int .i64 s.f2) (.bool false) := ⟨_, rfl⟩
          have hgq := put4_gr wr g11 (.string s.f0) (.int .i64 s.f1) (.int .i64 s.f2) (.bool false)
          rw [← hwq] at hgq
          have z0 := cell_gr hx0 hgq ha3
          have z1 := cell_gr hx1 hgq ha3
          have z2 := cell_gr hx2 hgq ha3
          have z3 := cell_gr hx3 hgq ha3
          have v0 := (blk_cell (blk_gr5 HOO.out hgq HNE1.out.symm) 0).trans rfl
          have v1 := (blk_cell (blk_gr5 HOO.out hgq HNE1.out.symm) 1).trans rfl
          have v2 := (blk_cell (blk_gr5 HOO.out hgq HNE1.out.symm) 2).trans rfl
          have v3 := (blk_cell (blk_gr5 HOO.out hgq HNE1.out.symm) 3).trans rfl
          have v4 := blk_frozen (blk_gr5 HOO.out hgq HNE1.out.symm) 0
          have v5 := blk_frozen (blk_gr5 HOO.out hgq HNE1.out.symm) 1
          have v6 := blk_frozen (blk_gr5 HOO.out hgq HNE1.out.symm) 2
          have v7 := blk_frozen (blk_gr5 HOO.out hgq HNE1.out.symm) 3
          have HWQ := Aside0.mk hwq
          unfold put4 at hwq
          rw [← hwq]
          clear hwq hgq
          go_wp2_with fail
          have hwq := HWQ.out
          subst hwq
          have g1_ := put4_gr wr g11 (.string s.f0) (.int .i64 s.f1) (.int .i64 s.f2) (.bool false)
          have e1_ := put4_blk (a' := .string s.f0) (b' := .int .i64 s.f1) (c' := .int .i64 s.f2) (d' := .bool false) HII.out
          have g2_ := put4_gr (put4 wr g11 (.string s.f0) (.int .i64 s.f1) (.int .i64 s.f2) (.bool false)) g12 (.string s.f0) (.int .i64 s.f1) (.int .i64 s.f2) (.bool false)
          have e2_ := put4_blk (a' := .string s.f0) (b' := .int .i64 s.f1) (c' := .int .i64 s.f2) (d' := .bool false) (blk_gr5 HOO.out g1_ HNE1.out.symm)
          have e3_ := blk_gr5 e1_ g2_ HNE1.out
          have HX2 := Aside0.mk (blk_gr5 (blk_gr5 HX.out g1_ HG11.out.2.1) g2_ HG12.out.2.1)
          have HY2 := Aside0.mk (blk_gr5 (blk_gr5 HY.out g1_ HG11.out.2.2) g2_ HG12.out.2.2.1)
          have HF2 := Aside0.mk (show ∀ z, E.outer = some z → ∃ k v1, p7 = some ⟨k, 0, none⟩ ∧ (put4 (put4 wr g11 (.string s.f0) (.int .i64 s.f1) (.int .i64 s.f2) (.bool false)) g12 (.string s.f0) (.int .i64 s.f1) (.int .i64 s.f2) (.bool false)).heap[k]? = some (Obj.cells #[.string z.1, .int .i64 z.2, v1] 39 (0, 0)) from fun z hz => by obtain ⟨k, v1, h1, h3⟩ := HF.out z hz; exact ⟨k, v1, h1, blk_gr5 (blk_gr5 h3 g1_ (blk_ne h3 HII.out (by decide))) g2_ (blk_ne h3 HOO.out (by decide))⟩)
          have HB2 := Aside0.mk (grown_far (grown_far HB.out g1_ HB.out.size HG11.out.1) g2_ (Nat.le_trans HB.out.size g1_.size) HG12.out.1)
          go_roundg (l1.length + 1 - (j + 1))
          case measure => have h1_ := HJ1.out; have h2_ := HJ.out; omega
          case rel => exact ⟨j + 1, [s], rfl, by first | rfl | (rw [HI1.out]), ⟨rfl, HJ1.out.1, HJ1.out.2⟩, ⟨HS2.out.symm⟩, HX2, HY2, ⟨by show _ = some (Obj.cells (encS s) _ _); rw [HSS.out]; exact e3_⟩, ⟨by show _ = some (Obj.cells (encS s) _ _); rw [HSS.out]; exact e2_⟩, HF2, HB2⟩
        | cons s0 x =>
          have hbb : (!(s0 :: x : List StepS).isEmpty) = true := rfl
          rw [hbb]
          clear hbb
          go_wp2_with fail
          have g2_ := put4_gr wr g12 (.string s.f0) (.int .i64 s.f1) (.int .i64 s.f2) (.bool false)
          have e2_ := put4_blk (a' := .string s.f0) (b' := .int .i64 s.f1) (c' := .int .i64 s.f2) (d' := .bool false) HOO.out
          have HI2 := Aside0.mk (blk_gr5 HI.out g2_ HNE1.out)
          have HX2 := Aside0.mk (blk_gr5 HX.out g2_ HG12.out.2.1)
          have HY2 := Aside0.mk (blk_gr5 HY.out g2_ HG12.out.2.2.1)
          have HF2 := Aside0.mk (show ∀ z, E.outer = some z → ∃ k v1, p7 = some ⟨k, 0, none⟩ ∧ (put4 wr g12 (.string s.f0) (.int .i64 s.f1) (.int .i64 s.f2) (.bool false)).heap[k]? = some (Obj.cells #[.string z.1, .int .i64 z.2, v1] 39 (0, 0)) from fun z hz => by obtain ⟨k, v1, h1, h3⟩ := HF.out z hz; exact ⟨k, v1, h1, blk_gr5 h3 g2_ (blk_ne h3 HOO.out (by decide))⟩)
          have HB2 := Aside0.mk (grown_far HB.out g2_ HB.out.size HG12.out.1)
          go_roundg (l1.length + 1 - (j + 1))
          case measure => have h1_ := HJ1.out; have h2_ := HJ.out; omega
          case rel => exact ⟨j + 1, s0 :: x ++ [s], rfl, by first | rfl | (rw [HI1.out]), ⟨rfl, HJ1.out.1, HJ1.out.2⟩, ⟨HS2.out.symm⟩, HX2, HY2, HI2, ⟨by rw [List.getLast?_append]; show _ = some (Obj.cells (encS s) _ _); rw [HSS.out]; exact e2_⟩, HF2, HB2⟩
    · have HEE := Aside0.mk (show x = wrapsF l1 by
        rw [HW.out]
        unfold wrapsF
        rcases Nat.le_total l1.length 10 with h | h
        · rw [show j = l1.length by omega, List.take_length, List.take_of_length_le h]
        · rw [show j = 10 by omega])
      have d1 : (decide ((j : Int) < (l1.length : Int)) = false ∧ decide (j < l1.length) = false ∧ (j < l1.length) = False) ∨ ((decide ((j : Int) < (l1.length : Int)) = true ∧ decide (j < l1.length) = true ∧ (j < l1.length) = True) ∧ decide ((j : Int) < 10) = false ∧ decide (j < 10) = false ∧ (j < 10) = False) := by
        by_cases h : j < l1.length
        · exact .inr ⟨⟨decide_eq_true (by omega), decide_eq_true h, eq_true h⟩, decide_eq_false (by omega), decide_eq_false (by omega), eq_false (by omega)⟩
        · exact .inl ⟨decide_eq_false (by omega), decide_eq_false h, eq_false h⟩
      have HXX := Aside0.mk d1
      have hin := HIN.out
      have hou := HOU.out
      rw [← HEE.out] at hin hou
      clear d1 hlt hkj HIN HOU HEE HW
      cases x with
      | nil =>
        have b1 : E.outer.isSome = false := by rw [hou]; rfl
        have b2 : (E.innerA none).isSome = false := by rw [hin]; rfl
        have b3 : (!([] : List StepS).isEmpty) = false := rfl
        rw [b1, b2, b3]
        clear b1 b2 b3 hin hou HX HY HI HO HF
        rcases HXX.out with ⟨d1, d3, p3⟩ | ⟨⟨d1, d3, p3⟩, d2, d4, p4⟩
        all_goals
          go_upto_region 18 with (fail)
          refine start_ (n := 45) (S := fun w' => True) (ds := []) #[false, false, false, false, false, false, false, false, false, false, false, false, false, false, false, false, false, false, false, false, false, false, false, false, false, false, false, false, false, false, false, false, false, false, false, false, false, false, false, false, false, false, false, false, false] (by kernel_rfl) rfl rfl trivial (fun hHeld => ?_)
          refine with_tabW ff.tab18 ff.bits18 (fun HT_ HW_ => ?_)
          have n6_ := Aside0.mk HB.out.drew; clear HB; have HB := n6_; clear n6_; generalize wr.drew = wd at HB ⊢
          refine pure_ (i := 0) (N := some 64) (v := ?_) (a' := ?_) #[true, false, false, false, false, false, false, false, false, false, false, false, false, false, false, false, false, false, false, false, false, false, false, false, false, false, false, false, false, false, false, false, false, false, false, false, false, false, false, false, false, false, false, false, false] rfl rfl (any_of HT_.out (by kernel_rfl)) (fun _ _ _ h => h) (Or.inl ⟨by rfl, ?_⟩) ?_ ?_
          rotate_left
          · intro w'
            go_simp
            with_reducible rfl
          rotate_left
          · simp only [Act.put, List.setIfInBounds_toArray, List.set_cons_zero, List.set_cons_succ, i64_w, i32_w]
            rfl
          refine pure_ (i := 1) (N := some 65) (v := ?_) (a' := ?_) #[true, true, false, false, false, false, false, false, false, false, false, false, false, false, false, false, false, false, false, false, false, false, false, false, false, false, false, false, false, false, false, false, false, false, false, false, false, false, false, false, false, false, false, false, false] rfl rfl (any_of HT_.out (by kernel_rfl)) (fun _ _ _ h => h) (Or.inl ⟨by rfl, ?_⟩) ?_ ?_
          rotate_left
          · intro w'
            go_simp
            with_reducible rfl
          rotate_left
          · simp only [Act.put, List.setIfInBounds_toArray, List.set_cons_zero, List.set_cons_succ, i64_w, i32_w]
            rfl
          refine pure_ (i := 2) (N := some 66) (v := ?_) (a' := ?_) #[true, true, true, false, false, false, false, false, false, false, false, false, false, false, false, false, false, false, false, false, false, false, false, false, false, false, false, false, false, false, false, false, false, false, false, false, false, false, false, false, false, false, false, false, false] rfl rfl (any_of HT_.out (by kernel_rfl)) (fun _ _ _ h => h) (Or.inl ⟨by rfl, ?_⟩) ?_ ?_
          rotate_left
          · intro w'
            go_simp
            with_reducible rfl
          rotate_left
          · simp only [Act.put, List.setIfInBounds_toArray, List.set_cons_zero, List.set_cons_succ, i64_w, i32_w]
            rfl
          refine inv_at [3, 4, 5, 6, 7, 8, 9, 10, 11, 12, 13, 14, 15, 16, 17, 18, 19, 20, 21, 22, 23, 24, 25, 26, 27, 28, 29, 30, 31, 32, 33, 34, 35, 36, 37, 38, 39, 40, 41, 42, 43, 44] (fun a0_ b a w' => a = putSel a0_ b [(3, 67, undef), (4, 68, undef), (5, 69, undef), (6, 70, undef), (7, 71, undef), (8, 72, undef), (9, 73, undef), (10, 74, undef), (11, 75, undef), (12, 76, undef), (13, 77, undef), (14, 78, undef), (15, 79, undef), (16, 80, undef), (17, 81, undef), (18, 82, undef), (19, 83, undef), (20, 84, undef), (21, 85, undef), (22, 86, undef), (23, 87, undef), (24, 88, undef), (25, 89, undef), (26, 90, undef), (27, 91, undef), (28, 92, undef), (29, 93, undef), (30, 94, undef), (31, 95, undef), (32, 96, undef), (33, 97, undef), (34, 98, undef), (35, 99, undef), (36, 100, undef), (37, 101, undef), (38, 102, undef), (39, 103, undef), (40, 104, undef), (41, 105, undef), (42, 106, undef), (43, 107, .bool true), (44, 4, .bool true)] ∧ (Below w.heap.size w w')) HT_.out HW_.out (by kernel_rfl) (by kernel_rfl) ?_ ?_ ?_
          · exact ⟨by simp only [putSel, Bool.false_eq_true, if_false], HB.out⟩
          · skip
            clear HB
            refine steps_cons ?_ ?_
            · rintro b a w' ⟨ha, Q_HB⟩ hb_ hon hoff
              refine ⟨_, rfl, fun K hK => ?_⟩
              have e66 : a.tmps[66]? = some (.bool true) := by rw [ha]; exact (putSel_off rfl).trans rfl
              replace ha := Aside0.mk ha
              have HB := Aside0.mk Q_HB
              refine off_ (wanted_off rfl rfl rfl (e66.trans (by first | rfl | (simp [*]; done)))) ?_
              refine hK.out _ _ ⟨(by rw [ha.out]; exact putSel_upk 0 hb_ rfl rfl rfl), Q_HB⟩
            refine steps_cons ?_ ?_
            · rintro b a w' ⟨ha, Q_HB⟩ hb_ hon hoff
              refine ⟨_, rfl, fun K hK => ?_⟩
              have e66 : a.tmps[66]? = some (.bool true) := by rw [ha]; exact (putSel_off rfl).trans rfl
              replace ha := Aside0.mk ha
              have HB := Aside0.mk Q_HB
              refine off_ (wanted_off rfl rfl rfl (e66.trans (by first | rfl | (simp [*]; done)))) ?_
              refine hK.out _ _ ⟨(by rw [ha.out]; exact putSel_upk 1 hb_ rfl rfl rfl), Q_HB⟩
            refine steps_cons ?_ ?_
            · rintro b a w' ⟨ha, Q_HB⟩ hb_ hon hoff
              refine ⟨_, rfl, fun K hK => ?_⟩
              have e66 : a.tmps[66]? = some (.bool true) := by rw [ha]; exact (putSel_off rfl).trans rfl
              replace ha := Aside0.mk ha
              have HB := Aside0.mk Q_HB
              refine off_ (wanted_off rfl rfl rfl (e66.trans (by first | rfl | (simp [*]; done)))) ?_
              refine hK.out _ _ ⟨(by rw [ha.out]; exact putSel_upk 2 hb_ rfl rfl rfl), Q_HB⟩
            refine steps_cons ?_ ?_
            · rintro b a w' ⟨ha, Q_HB⟩ hb_ hon hoff
              refine ⟨_, rfl, fun K hK => ?_⟩
              have e66 : a.tmps[66]? = some (.bool true) := by rw [ha]; exact (putSel_off rfl).trans rfl
              replace ha := Aside0.mk ha
              have HB := Aside0.mk Q_HB
              refine off_ (wanted_off rfl rfl rfl (e66.trans (by first | rfl | (simp [*]; done)))) ?_
              refine hK.out _ _ ⟨(by rw [ha.out]; exact putSel_upk 3 hb_ rfl rfl rfl), Q_HB⟩
            refine steps_cons ?_ ?_
            · rintro b a w' ⟨ha, Q_HB⟩ hb_ hon hoff
              refine ⟨_, rfl, fun K hK => ?_⟩
              have e66 : a.tmps[66]? = some (.bool true) := by rw [ha]; exact (putSel_off rfl).trans rfl
              replace ha := Aside0.mk ha
              have HB := Aside0.mk Q_HB
              refine off_ (wanted_off rfl rfl rfl (e66.trans (by first | rfl | (simp [*]; done)))) ?_
              refine hK.out _ _ ⟨(by rw [ha.out]; exact putSel_upk 4 hb_ rfl rfl rfl), Q_HB⟩
            refine steps_cons ?_ ?_
            · rintro b a w' ⟨ha, Q_HB⟩ hb_ hon hoff
              refine ⟨_, rfl, fun K hK => ?_⟩
              have e66 : a.tmps[66]? = some (.bool true) := by rw [ha]; exact (putSel_off rfl).trans rfl
              replace ha := Aside0.mk ha
              have HB := Aside0.mk Q_HB
              refine off_ (wanted_off rfl rfl rfl (e66.trans (by first | rfl | (simp [*]; done)))) ?_
              refine hK.out _ _ ⟨(by rw [ha.out]; exact putSel_upk 5 hb_ rfl rfl rfl), Q_HB⟩
            refine steps_cons ?_ ?_
            · rintro b a w' ⟨ha, Q_HB⟩ hb_ hon hoff
              refine ⟨_, rfl, fun K hK => ?_⟩
              have e66 : a.tmps[66]? = some (.bool true) := by rw [ha]; exact (putSel_off rfl).trans rfl
              replace ha := Aside0.mk ha
              have HB := Aside0.mk Q_HB
              refine off_ (wanted_off rfl rfl rfl (e66.trans (by first | rfl | (simp [*]; done)))) ?_
              refine hK.out _ _ ⟨(by rw [ha.out]; exact putSel_upk 6 hb_ rfl rfl rfl), Q_HB⟩
            refine steps_cons ?_ ?_
            · rintro b a w' ⟨ha, Q_HB⟩ hb_ hon hoff
              refine ⟨_, rfl, fun K hK => ?_⟩
              have e66 : a.tmps[66]? = some (.bool true) := by rw [ha]; exact (putSel_off rfl).trans rfl
              replace ha := Aside0.mk ha
              have HB := Aside0.mk Q_HB
              refine off_ (wanted_off rfl rfl rfl (e66.trans (by first | rfl | (simp [*]; done)))) ?_
              refine hK.out _ _ ⟨(by rw [ha.out]; exact putSel_upk 7 hb_ rfl rfl rfl), Q_HB⟩
            refine steps_cons ?_ ?_
            · rintro b a w' ⟨ha, Q_HB⟩ hb_ hon hoff
              refine ⟨_, rfl, fun K hK => ?_⟩
              have e66 : a.tmps[66]? = some (.bool true) := by rw [ha]; exact (putSel_off rfl).trans rfl
              replace ha := Aside0.mk ha
              have HB := Aside0.mk Q_HB
              refine off_ (wanted_off rfl rfl rfl (e66.trans (by first | rfl | (simp [*]; done)))) ?_
              refine hK.out _ _ ⟨(by rw [ha.out]; exact putSel_upk 8 hb_ rfl rfl rfl), Q_HB⟩
            refine steps_cons ?_ ?_
            · rintro b a w' ⟨ha, Q_HB⟩ hb_ hon hoff
              refine ⟨_, rfl, fun K hK => ?_⟩
              have e66 : a.tmps[66]? = some (.bool true) := by rw [ha]; exact (putSel_off rfl).trans rfl
              replace ha := Aside0.mk ha
              have HB := Aside0.mk Q_HB
              refine off_ (wanted_off rfl rfl rfl (e66.trans (by first | rfl | (simp [*]; done)))) ?_
              refine hK.out _ _ ⟨(by rw [ha.out]; exact putSel_upk 9 hb_ rfl rfl rfl), Q_HB⟩
            refine steps_cons ?_ ?_
            · rintro b a w' ⟨ha, Q_HB⟩ hb_ hon hoff
              refine ⟨_, rfl, fun K hK => ?_⟩
              have e66 : a.tmps[66]? = some (.bool true) := by rw [ha]; exact (putSel_off rfl).trans rfl
              replace ha := Aside0.mk ha
              have HB := Aside0.mk Q_HB
              refine off_ (wanted_off rfl rfl rfl (e66.trans (by first | rfl | (simp [*]; done)))) ?_
              refine hK.out _ _ ⟨(by rw [ha.out]; exact putSel_upk 10 hb_ rfl rfl rfl), Q_HB⟩
            refine steps_cons ?_ ?_
            · rintro b a w' ⟨ha, Q_HB⟩ hb_ hon hoff
              refine ⟨_, rfl, fun K hK => ?_⟩
              have e77 : a.tmps[77]? = some (undef) := by rw [ha]; exact putSel_on (e := (13, 77, undef)) 10 rfl rfl (hon 13 (by kernel_rfl)) rfl
              replace ha := Aside0.mk ha
              have HB := Aside0.mk Q_HB
              refine off_ (wanted_undef rfl rfl rfl (e77.trans (by first | rfl | (simp [*]; done)))) ?_
              refine hK.out _ _ ⟨(by rw [ha.out]; exact putSel_upk 11 hb_ rfl rfl rfl), Q_HB⟩
            refine steps_cons ?_ ?_
            · rintro b a w' ⟨ha, Q_HB⟩ hb_ hon hoff
              refine ⟨_, rfl, fun K hK => ?_⟩
              have e77 : a.tmps[77]? = some (undef) := by rw [ha]; exact putSel_on (e := (13, 77, undef)) 10 rfl rfl (hon 13 (by kernel_rfl)) rfl
              replace ha := Aside0.mk ha
              have HB := Aside0.mk Q_HB
              refine off_ (wanted_undef rfl rfl rfl (e77.trans (by first | rfl | (simp [*]; done)))) ?_
              refine hK.out _ _ ⟨(by rw [ha.out]; exact putSel_upk 12 hb_ rfl rfl rfl), Q_HB⟩
            refine steps_cons ?_ ?_
            · rintro b a w' ⟨ha, Q_HB⟩ hb_ hon hoff
              refine ⟨_, rfl, fun K hK => ?_⟩
              have e77 : a.tmps[77]? = some (undef) := by rw [ha]; exact putSel_on (e := (13, 77, undef)) 10 rfl rfl (hon 13 (by kernel_rfl)) rfl
              replace ha := Aside0.mk ha
              have HB := Aside0.mk Q_HB
              refine off_ (wanted_undef rfl rfl rfl (e77.trans (by first | rfl | (simp [*]; done)))) ?_
              refine hK.out _ _ ⟨(by rw [ha.out]; exact putSel_upk 13 hb_ rfl rfl rfl), Q_HB⟩
            refine steps_cons ?_ ?_
            · rintro b a w' ⟨ha, Q_HB⟩ hb_ hon hoff
              refine ⟨_, rfl, fun K hK => ?_⟩
              have e77 : a.tmps[77]? = some (undef) := by rw [ha]; exact putSel_on (e := (13, 77, undef)) 10 rfl rfl (hon 13 (by kernel_rfl)) rfl
              replace ha := Aside0.mk ha
              have HB := Aside0.mk Q_HB
              refine off_ (wanted_undef rfl rfl rfl (e77.trans (by first | rfl | (simp [*]; done)))) ?_
              refine hK.out _ _ ⟨(by rw [ha.out]; exact putSel_upk 14 hb_ rfl rfl rfl), Q_HB⟩
            refine steps_cons ?_ ?_
            · rintro b a w' ⟨ha, Q_HB⟩ hb_ hon hoff
              refine ⟨_, rfl, fun K hK => ?_⟩
              have e77 : a.tmps[77]? = some (undef) := by rw [ha]; exact putSel_on (e := (13, 77, undef)) 10 rfl rfl (hon 13 (by kernel_rfl)) rfl
              replace ha := Aside0.mk ha
              have HB := Aside0.mk Q_HB
              refine off_ (wanted_undef rfl rfl rfl (e77.trans (by first | rfl | (simp [*]; done)))) ?_
              refine hK.out _ _ ⟨(by rw [ha.out]; exact putSel_upk 15 hb_ rfl rfl rfl), Q_HB⟩
            refine steps_cons ?_ ?_
            · rintro b a w' ⟨ha, Q_HB⟩ hb_ hon hoff
              refine ⟨_, rfl, fun K hK => ?_⟩
              have e66 : a.tmps[66]? = some (.bool true) := by rw [ha]; exact (putSel_off rfl).trans rfl
              replace ha := Aside0.mk ha
              have HB := Aside0.mk Q_HB
              refine off_ (wanted_off rfl rfl rfl (e66.trans (by first | rfl | (simp [*]; done)))) ?_
              refine hK.out _ _ ⟨(by rw [ha.out]; exact putSel_upk 16 hb_ rfl rfl rfl), Q_HB⟩
            refine steps_cons ?_ ?_
            · rintro b a w' ⟨ha, Q_HB⟩ hb_ hon hoff
              refine ⟨_, rfl, fun K hK => ?_⟩
              have e66 : a.tmps[66]? = some (.bool true) := by rw [ha]; exact (putSel_off rfl).trans rfl
              replace ha := Aside0.mk ha
              have HB := Aside0.mk Q_HB
              refine off_ (wanted_off rfl rfl rfl (e66.trans (by first | rfl | (simp [*]; done)))) ?_
              refine hK.out _ _ ⟨(by rw [ha.out]; exact putSel_upk 17 hb_ rfl rfl rfl), Q_HB⟩
            refine steps_cons ?_ ?_
            · rintro b a w' ⟨ha, Q_HB⟩ hb_ hon hoff
              refine ⟨_, rfl, fun K hK => ?_⟩
              have e84 : a.tmps[84]? = some (undef) := by rw [ha]; exact putSel_on (e := (20, 84, undef)) 17 rfl rfl (hon 20 (by kernel_rfl)) rfl
              replace ha := Aside0.mk ha
              have HB := Aside0.mk Q_HB
              refine off_ (wanted_undef rfl rfl rfl (e84.trans (by first | rfl | (simp [*]; done)))) ?_
              refine hK.out _ _ ⟨(by rw [ha.out]; exact putSel_upk 18 hb_ rfl rfl rfl), Q_HB⟩
            refine steps_cons ?_ ?_
            · rintro b a w' ⟨ha, Q_HB⟩ hb_ hon hoff
              refine ⟨_, rfl, fun K hK => ?_⟩
              have e84 : a.tmps[84]? = some (undef) := by rw [ha]; exact putSel_on (e := (20, 84, undef)) 17 rfl rfl (hon 20 (by kernel_rfl)) rfl
              replace ha := Aside0.mk ha
              have HB := Aside0.mk Q_HB
              refine off_ (wanted_undef rfl rfl rfl (e84.trans (by first | rfl | (simp [*]; done)))) ?_
              refine hK.out _ _ ⟨(by rw [ha.out]; exact putSel_upk 19 hb_ rfl rfl rfl), Q_HB⟩
            refine steps_cons ?_ ?_
            · rintro b a w' ⟨ha, Q_HB⟩ hb_ hon hoff
              refine ⟨_, rfl, fun K hK => ?_⟩
              have e84 : a.tmps[84]? = some (undef) := by rw [ha]; exact putSel_on (e := (20, 84, undef)) 17 rfl rfl (hon 20 (by kernel_rfl)) rfl
              replace ha := Aside0.mk ha
              have HB := Aside0.mk Q_HB
              refine off_ (wanted_undef rfl rfl rfl (e84.trans (by first | rfl | (simp [*]; done)))) ?_
              refine hK.out _ _ ⟨(by rw [ha.out]; exact putSel_upk 20 hb_ rfl rfl rfl), Q_HB⟩
            refine steps_cons ?_ ?_
            · rintro b a w' ⟨ha, Q_HB⟩ hb_ hon hoff
              refine ⟨_, rfl, fun K hK => ?_⟩
              have e84 : a.tmps[84]? = some (undef) := by rw [ha]; exact putSel_on (e := (20, 84, undef)) 17 rfl rfl (hon 20 (by kernel_rfl)) rfl
              replace ha := Aside0.mk ha
              have HB := Aside0.mk Q_HB
              refine off_ (wanted_undef rfl rfl rfl (e84.trans (by first | rfl | (simp [*]; done)))) ?_
              refine hK.out _ _ ⟨(by rw [ha.out]; exact putSel_upk 21 hb_ rfl rfl rfl), Q_HB⟩
            refine steps_cons ?_ ?_
            · rintro b a w' ⟨ha, Q_HB⟩ hb_ hon hoff
              refine ⟨_, rfl, fun K hK => ?_⟩
              have e84 : a.tmps[84]? = some (undef) := by rw [ha]; exact putSel_on (e := (20, 84, undef)) 17 rfl rfl (hon 20 (by kernel_rfl)) rfl
              replace ha := Aside0.mk ha
              have HB := Aside0.mk Q_HB
              refine off_ (wanted_undef rfl rfl rfl (e84.trans (by first | rfl | (simp [*]; done)))) ?_
              refine hK.out _ _ ⟨(by rw [ha.out]; exact putSel_upk 22 hb_ rfl rfl rfl), Q_HB⟩
            refine steps_cons ?_ ?_
            · rintro b a w' ⟨ha, Q_HB⟩ hb_ hon hoff
              refine ⟨_, rfl, fun K hK => ?_⟩
              have e84 : a.tmps[84]? = some (undef) := by rw [ha]; exact putSel_on (e := (20, 84, undef)) 17 rfl rfl (hon 20 (by kernel_rfl)) rfl
              replace ha := Aside0.mk ha
              have HB := Aside0.mk Q_HB
              refine off_ (wanted_undef rfl rfl rfl (e84.trans (by first | rfl | (simp [*]; done)))) ?_
              refine hK.out _ _ ⟨(by rw [ha.out]; exact putSel_upk 23 hb_ rfl rfl rfl), Q_HB⟩
            refine steps_cons ?_ ?_
            · rintro b a w' ⟨ha, Q_HB⟩ hb_ hon hoff
              refine ⟨_, rfl, fun K hK => ?_⟩
              have e84 : a.tmps[84]? = some (undef) := by rw [ha]; exact putSel_on (e := (20, 84, undef)) 17 rfl rfl (hon 20 (by kernel_rfl)) rfl
              replace ha := Aside0.mk ha
              have HB := Aside0.mk Q_HB
              refine off_ (wanted_undef rfl rfl rfl (e84.trans (by first | rfl | (simp [*]; done)))) ?_
              refine hK.out _ _ ⟨(by rw [ha.out]; exact putSel_upk 24 hb_ rfl rfl rfl), Q_HB⟩
            refine steps_cons ?_ ?_
            · rintro b a w' ⟨ha, Q_HB⟩ hb_ hon hoff
              refine ⟨_, rfl, fun K hK => ?_⟩
              have e84 : a.tmps[84]? = some (undef) := by rw [ha]; exact putSel_on (e := (20, 84, undef)) 17 rfl rfl (hon 20 (by kernel_rfl)) rfl
              replace ha := Aside0.mk ha
              have HB := Aside0.mk Q_HB
              refine off_ (wanted_undef rfl rfl rfl (e84.trans (by first | rfl | (simp [*]; done)))) ?_
              refine hK.out _ _ ⟨(by rw [ha.out]; exact putSel_upk 25 hb_ rfl rfl rfl), Q_HB⟩
            refine steps_cons ?_ ?_
            · rintro b a w' ⟨ha, Q_HB⟩ hb_ hon hoff
              refine ⟨_, rfl, fun K hK => ?_⟩
              have e84 : a.tmps[84]? = some (undef) := by rw [ha]; exact putSel_on (e := (20, 84, undef)) 17 rfl rfl (hon 20 (by kernel_rfl)) rfl
              replace ha := Aside0.mk ha
              have HB := Aside0.mk Q_HB
              refine off_ (wanted_undef rfl rfl rfl (e84.trans (by first | rfl | (simp [*]; done)))) ?_
              refine hK.out _ _ ⟨(by rw [ha.out]; exact putSel_upk 26 hb_ rfl rfl rfl), Q_HB⟩
            refine steps_cons ?_ ?_
            · rintro b a w' ⟨ha, Q_HB⟩ hb_ hon hoff
              refine ⟨_, rfl, fun K hK => ?_⟩
              have e84 : a.tmps[84]? = some (undef) := by rw [ha]; exact putSel_on (e := (20, 84, undef)) 17 rfl rfl (hon 20 (by kernel_rfl)) rfl
              replace ha := Aside0.mk ha
              have HB := Aside0.mk Q_HB
              refine off_ (wanted_undef rfl rfl rfl (e84.trans (by first | rfl | (simp [*]; done)))) ?_
              refine hK.out _ _ ⟨(by rw [ha.out]; exact putSel_upk 27 hb_ rfl rfl rfl), Q_HB⟩
            refine steps_cons ?_ ?_
            · rintro b a w' ⟨ha, Q_HB⟩ hb_ hon hoff
              refine ⟨_, rfl, fun K hK => ?_⟩
              have e84 : a.tmps[84]? = some (undef) := by rw [ha]; exact putSel_on (e := (20, 84, undef)) 17 rfl rfl (hon 20 (by kernel_rfl)) rfl
              replace ha := Aside0.mk ha
              have HB := Aside0.mk Q_HB
              refine off_ (wanted_undef rfl rfl rfl (e84.trans (by first | rfl | (simp [*]; done)))) ?_
              refine hK.out _ _ ⟨(by rw [ha.out]; exact putSel_upk 28 hb_ rfl rfl rfl), Q_HB⟩
            refine steps_cons ?_ ?_
            · rintro b a w' ⟨ha, Q_HB⟩ hb_ hon hoff
              refine ⟨_, rfl, fun K hK => ?_⟩
              have e84 : a.tmps[84]? = some (undef) := by rw [ha]; exact putSel_on (e := (20, 84, undef)) 17 rfl rfl (hon 20 (by kernel_rfl)) rfl
              replace ha := Aside0.mk ha
              have HB := Aside0.mk Q_HB
              refine off_ (wanted_undef rfl rfl rfl (e84.trans (by first | rfl | (simp [*]; done)))) ?_
              refine hK.out _ _ ⟨(by rw [ha.out]; exact putSel_upk 29 hb_ rfl rfl rfl), Q_HB⟩
            refine steps_cons ?_ ?_
            · rintro b a w' ⟨ha, Q_HB⟩ hb_ hon hoff
              refine ⟨_, rfl, fun K hK => ?_⟩
              have e66 : a.tmps[66]? = some (.bool true) := by rw [ha]; exact (putSel_off rfl).trans rfl
              replace ha := Aside0.mk ha
              have HB := Aside0.mk Q_HB
              refine off_ (wanted_off rfl rfl rfl (e66.trans (by first | rfl | (simp [*]; done)))) ?_
              refine hK.out _ _ ⟨(by rw [ha.out]; exact putSel_upk 30 hb_ rfl rfl rfl), Q_HB⟩
            refine steps_cons ?_ ?_
            · rintro b a w' ⟨ha, Q_HB⟩ hb_ hon hoff
              refine ⟨_, rfl, fun K hK => ?_⟩
              have e66 : a.tmps[66]? = some (.bool true) := by rw [ha]; exact (putSel_off rfl).trans rfl
              replace ha := Aside0.mk ha
              have HB := Aside0.mk Q_HB
              refine off_ (wanted_off rfl rfl rfl (e66.trans (by first | rfl | (simp [*]; done)))) ?_
              refine hK.out _ _ ⟨(by rw [ha.out]; exact putSel_upk 31 hb_ rfl rfl rfl), Q_HB⟩
            refine steps_cons ?_ ?_
            · rintro b a w' ⟨ha, Q_HB⟩ hb_ hon hoff
              refine ⟨_, rfl, fun K hK => ?_⟩
              have e98 : a.tmps[98]? = some (undef) := by rw [ha]; exact putSel_on (e := (34, 98, undef)) 31 rfl rfl (hon 34 (by kernel_rfl)) rfl
              replace ha := Aside0.mk ha
              have HB := Aside0.mk Q_HB
              refine off_ (wanted_undef rfl rfl rfl (e98.trans (by first | rfl | (simp [*]; done)))) ?_
              refine hK.out _ _ ⟨(by rw [ha.out]; exact putSel_upk 32 hb_ rfl rfl rfl), Q_HB⟩
            refine steps_cons ?_ ?_
            · rintro b a w' ⟨ha, Q_HB⟩ hb_ hon hoff
              refine ⟨_, rfl, fun K hK => ?_⟩
              have e98 : a.tmps[98]? = some (undef) := by rw [ha]; exact putSel_on (e := (34, 98, undef)) 31 rfl rfl (hon 34 (by kernel_rfl)) rfl
              replace ha := Aside0.mk ha
              have HB := Aside0.mk Q_HB
              refine off_ (wanted_undef rfl rfl rfl (e98.trans (by first | rfl | (simp [*]; done)))) ?_
              refine hK.out _ _ ⟨(by rw [ha.out]; exact putSel_upk 33 hb_ rfl rfl rfl), Q_HB⟩
            refine steps_cons ?_ ?_
            · rintro b a w' ⟨ha, Q_HB⟩ hb_ hon hoff
              refine ⟨_, rfl, fun K hK => ?_⟩
              have e98 : a.tmps[98]? = some (undef) := by rw [ha]; exact putSel_on (e := (34, 98, undef)) 31 rfl rfl (hon 34 (by kernel_rfl)) rfl
              replace ha := Aside0.mk ha
              have HB := Aside0.mk Q_HB
              refine off_ (wanted_undef rfl rfl rfl (e98.trans (by first | rfl | (simp [*]; done)))) ?_
              refine hK.out _ _ ⟨(by rw [ha.out]; exact putSel_upk 34 hb_ rfl rfl rfl), Q_HB⟩
            refine steps_cons ?_ ?_
            · rintro b a w' ⟨ha, Q_HB⟩ hb_ hon hoff
              refine ⟨_, rfl, fun K hK => ?_⟩
              have e98 : a.tmps[98]? = some (undef) := by rw [ha]; exact putSel_on (e := (34, 98, undef)) 31 rfl rfl (hon 34 (by kernel_rfl)) rfl
              replace ha := Aside0.mk ha
              have HB := Aside0.mk Q_HB
              refine off_ (wanted_undef rfl rfl rfl (e98.trans (by first | rfl | (simp [*]; done)))) ?_
              refine hK.out _ _ ⟨(by rw [ha.out]; exact putSel_upk 35 hb_ rfl rfl rfl), Q_HB⟩
            refine steps_cons ?_ ?_
            · rintro b a w' ⟨ha, Q_HB⟩ hb_ hon hoff
              refine ⟨_, rfl, fun K hK => ?_⟩
              have e98 : a.tmps[98]? = some (undef) := by rw [ha]; exact putSel_on (e := (34, 98, undef)) 31 rfl rfl (hon 34 (by kernel_rfl)) rfl
              replace ha := Aside0.mk ha
              have HB := Aside0.mk Q_HB
              refine off_ (wanted_undef rfl rfl rfl (e98.trans (by first | rfl | (simp [*]; done)))) ?_
              refine hK.out _ _ ⟨(by rw [ha.out]; exact putSel_upk 36 hb_ rfl rfl rfl), Q_HB⟩
            refine steps_cons ?_ ?_
            · rintro b a w' ⟨ha, Q_HB⟩ hb_ hon hoff
              refine ⟨_, rfl, fun K hK => ?_⟩
              have e98 : a.tmps[98]? = some (undef) := by rw [ha]; exact putSel_on (e := (34, 98, undef)) 31 rfl rfl (hon 34 (by kernel_rfl)) rfl
              replace ha := Aside0.mk ha
              have HB := Aside0.mk Q_HB
              refine off_ (wanted_undef rfl rfl rfl (e98.trans (by first | rfl | (simp [*]; done)))) ?_
              refine hK.out _ _ ⟨(by rw [ha.out]; exact putSel_upk 37 hb_ rfl rfl rfl), Q_HB⟩
            refine steps_cons ?_ ?_
            · rintro b a w' ⟨ha, Q_HB⟩ hb_ hon hoff
              refine ⟨_, rfl, fun K hK => ?_⟩
              have e98 : a.tmps[98]? = some (undef) := by rw [ha]; exact putSel_on (e := (34, 98, undef)) 31 rfl rfl (hon 34 (by kernel_rfl)) rfl
              replace ha := Aside0.mk ha
              have HB := Aside0.mk Q_HB
              refine off_ (wanted_undef rfl rfl rfl (e98.trans (by first | rfl | (simp [*]; done)))) ?_
              refine hK.out _ _ ⟨(by rw [ha.out]; exact putSel_upk 38 hb_ rfl rfl rfl), Q_HB⟩
            refine steps_cons ?_ ?_
            · rintro b a w' ⟨ha, Q_HB⟩ hb_ hon hoff
              refine ⟨_, rfl, fun K hK => ?_⟩
              have e66 : a.tmps[66]? = some (.bool true) := by rw [ha]; exact (putSel_off rfl).trans rfl
              replace ha := Aside0.mk ha
              have HB := Aside0.mk Q_HB
              refine off_ (wanted_off rfl rfl rfl (e66.trans (by first | rfl | (simp [*]; done)))) ?_
              refine hK.out _ _ ⟨(by rw [ha.out]; exact putSel_upk 39 hb_ rfl rfl rfl), Q_HB⟩
            refine steps_cons ?_ ?_
            · rintro b a w' ⟨ha, Q_HB⟩ hb_ hon hoff
              refine ⟨_, rfl, fun K hK => ?_⟩
              have e66 : a.tmps[66]? = some (.bool true) := by rw [ha]; exact (putSel_off rfl).trans rfl
              have e106 : a.tmps[106]? = some (undef) := by rw [ha]; exact putSel_on (e := (42, 106, undef)) 39 rfl rfl (hon 42 (by kernel_rfl)) rfl
              replace ha := Aside0.mk ha
              have HB := Aside0.mk Q_HB
              refine value_ (w1 := w') (v := .bool true) (by rfl) rfl ?_ ?_
              · go_simp
                (try simp only [i64_w])
                try rfl
              refine hK.out _ _ ⟨(by rw [ha.out]; exact putSel_upk 40 hb_ rfl rfl rfl), Q_HB⟩
            refine steps_cons ?_ ?_
            · rintro b a w' ⟨ha, Q_HB⟩ hb_ hon hoff
              refine ⟨_, rfl, fun K hK => ?_⟩
              have e107 : a.tmps[107]? = some (.bool true) := by rw [ha]; exact putSel_on (e := (43, 107, .bool true)) 40 rfl rfl (hon 43 (by kernel_rfl)) rfl
              replace ha := Aside0.mk ha
              have HB := Aside0.mk Q_HB
              refine value_ (w1 := w') (v := .bool true) (by rfl) rfl ?_ ?_
              · go_simp
                (try simp only [i64_w])
                try rfl
              refine hK.out _ _ ⟨(by rw [ha.out]; exact putSel_upk 41 hb_ rfl rfl rfl), Q_HB⟩
            exact steps_nil
          rintro b a w9 hall ⟨ha, Q_HB⟩
          clear HB
          have hb3_ := hall 3 (by kernel_rfl)
          have hb4_ := hall 4 (by kernel_rfl)
          have hb5_ := hall 5 (by kernel_rfl)
          have hb6_ := hall 6 (by kernel_rfl)
          have hb7_ := hall 7 (by kernel_rfl)
          have hb8_ := hall 8 (by kernel_rfl)
          have hb9_ := hall 9 (by kernel_rfl)
          have hb10_ := hall 10 (by kernel_rfl)
          have hb11_ := hall 11 (by kernel_rfl)
          have hb12_ := hall 12 (by kernel_rfl)
          have hb13_ := hall 13 (by kernel_rfl)
          have hb14_ := hall 14 (by kernel_rfl)
          have hb15_ := hall 15 (by kernel_rfl)
          have hb16_ := hall 16 (by kernel_rfl)
          have hb17_ := hall 17 (by kernel_rfl)
          have hb18_ := hall 18 (by kernel_rfl)
          have hb19_ := hall 19 (by kernel_rfl)
          have hb20_ := hall 20 (by kernel_rfl)
          have hb21_ := hall 21 (by kernel_rfl)
          have hb22_ := hall 22 (by kernel_rfl)
          have hb23_ := hall 23 (by kernel_rfl)
          have hb24_ := hall 24 (by kernel_rfl)
          have hb25_ := hall 25 (by kernel_rfl)
          have hb26_ := hall 26 (by kernel_rfl)
          have hb27_ := hall 27 (by kernel_rfl)
          have hb28_ := hall 28 (by kernel_rfl)
          have hb29_ := hall 29 (by kernel_rfl)
          have hb30_ := hall 30 (by kernel_rfl)
          have hb31_ := hall 31 (by kernel_rfl)
          have hb32_ := hall 32 (by kernel_rfl)
          have hb33_ := hall 33 (by kernel_rfl)
          have hb34_ := hall 34 (by kernel_rfl)
          have hb35_ := hall 35 (by kernel_rfl)
          have hb36_ := hall 36 (by kernel_rfl)
          have hb37_ := hall 37 (by kernel_rfl)
          have hb38_ := hall 38 (by kernel_rfl)
          have hb39_ := hall 39 (by kernel_rfl)
          have hb40_ := hall 40 (by kernel_rfl)
          have hb41_ := hall 41 (by kernel_rfl)
          have hb42_ := hall 42 (by kernel_rfl)
          have hb43_ := hall 43 (by kernel_rfl)
          have hb44_ := hall 44 (by kernel_rfl)
          subst ha
          simp only [putSel, hb3_, hb4_, hb5_, hb6_, hb7_, hb8_, hb9_, hb10_, hb11_, hb12_, hb13_, hb14_, hb15_, hb16_, hb17_, hb18_, hb19_, hb20_, hb21_, hb22_, hb23_, hb24_, hb25_, hb26_, hb27_, hb28_, hb29_, hb30_, hb31_, hb32_, hb33_, hb34_, hb35_, hb36_, hb37_, hb38_, hb39_, hb40_, hb41_, hb42_, hb43_, hb44_, if_true, Act.put, List.setIfInBounds_toArray, List.set_cons_zero, List.set_cons_succ]
          have HB := Aside0.mk Q_HB
          clear Q_HB
          clear hall hb3_ hb4_ hb5_ hb6_ hb7_ hb8_ hb9_ hb10_ hb11_ hb12_ hb13_ hb14_ hb15_ hb16_ hb17_ hb18_ hb19_ hb20_ hb21_ hb22_ hb23_ hb24_ hb25_ hb26_ hb27_ hb28_ hb29_ hb30_ hb31_ hb32_ hb33_ hb34_ hb35_ hb36_ hb37_ hb38_ hb39_ hb40_ hb41_ hb42_ hb43_ hb44_
          go_wp2
          go_ret
          exact ⟨by first | rfl | simp, HB.out⟩
      | cons s0 xs =>
        obtain ⟨yl, hyl⟩ : ∃ y, (s0 :: xs).getLast? = some y := ⟨_, List.getLast?_eq_some_getLast (by simp)⟩
        rw [hyl] at hou
        have b1 : E.outer.isSome = true := by rw [hou]; rfl
        have b2 : (E.innerA none).isSome = true := by rw [hin]; rfl
        have b3 : (!(s0 :: xs : List StepS).isEmpty) = true := rfl
        rw [b1, b2, b3]
        have ho2 := HO.out
        rw [hyl] at ho2
        have HO2 : Aside0 (wr.heap[g12]? = some (.cells #[.string yl.f0, .int .i64 yl.f1, .int .i64 yl.f2, .bool yl.f3] 24 (0, 0))) := ⟨ho2⟩
        have HI2 : Aside0 (wr.heap[g11]? = some (.cells #[.string s0.f0, .int .i64 s0.f1, .int .i64 s0.f2, .bool s0.f3] 24 (0, 0))) := ⟨HI.out⟩
        obtain ⟨kf, vf, hp7, hkf⟩ := HF.out _ hou
        subst hp7
        obtain ⟨hfo, hfp⟩ := HQ.out _ hin
        have HKF : Aside0 (wr.heap[kf]? = some (.cells #[.string (cutO yl.f0), .int .i64 yl.f1, vf] 39 (0, 0))) := ⟨hkf⟩
        have HY2 : Aside0 (wr.heap[g9]? = some (.cells #[.string (cutO s0.f0), .int .i64 s0.f1, fev] 39 (0, 0))) := ⟨by have h_ := HY.out; rw [hfo, hfp] at h_; exact h_⟩
        clear b1 b2 b3 hin hou hyl ho2 HO HI hkf HF HQ hfo hfp HY
        generalize s0.f0 = xa at *
        generalize s0.f1 = pa at *
        generalize s0.f2 = qa at *
        generalize s0.f3 = ra at *
        generalize yl.f0 = xb at *
        generalize yl.f1 = pb at *
        generalize yl.f2 = qb at *
        generalize yl.f3 = rb at *
        obtain ⟨na, hna⟩ : ∃ na, min xa.size 20 = na := ⟨_, rfl⟩
        have hmn : (if (20 : Int) < (xa.size : Int) then (20 : Int) else (xa.size : Int)) = (na : Int) := by split <;> omega
        have hm1 : decide ((0 : Int) ≤ (na : Int)) = true := decide_eq_true (by omega)
        have hm2 : decide ((na : Int) ≤ (xa.size : Int)) = true := decide_eq_true (by omega)
        have hm3 : decide (na ≤ xa.size) = true := decide_eq_true (by omega)
        have hm4 := eq_true (show (na : Int) ≤ (xa.size : Int) by omega)
        have hm5 := eq_true (show na ≤ xa.size by omega)
        obtain ⟨nb, hnb⟩ : ∃ nb, min xb.size 20 = nb := ⟨_, rfl⟩
        have hln : (if (20 : Int) < (xb.size : Int) then (20 : Int) else (xb.size : Int)) = (nb : Int) := by split <;> omega
        have hl1 : decide ((0 : Int) ≤ (nb : Int)) = true := decide_eq_true (by omega)
        have hl2 : decide ((nb : Int) ≤ (xb.size : Int)) = true := decide_eq_true (by omega)
        have hl3 : decide (nb ≤ xb.size) = true := decide_eq_true (by omega)
        have hl4 := eq_true (show (nb : Int) ≤ (xb.size : Int) by omega)
        have hl5 := eq_true (show nb ≤ xb.size by omega)
        rw [show cutO xa = xa.extract 0 na by unfold cutO; rw [hna]] at HY2
        rw [show cutO xb = xb.extract 0 nb by unfold cutO; rw [hnb]] at HKF
        clear hna hnb
        rcases HXX.out with ⟨d1, d3, p3⟩ | ⟨⟨d1, d3, p3⟩, d2, d4, p4⟩
        all_goals
          go_upto_region 18 with (fail)
          refine start_ (n := 45) (S := fun w' => True) (ds := []) #[false, false, false, false, false, false, false, false, false, false, false, false, false, false, false, false, false, false, false, false, false, false, false, false, false, false, false, false, false, false, false, false, false, false, false, false, false, false, false, false, false, false, false, false, false] (by kernel_rfl) rfl rfl trivial (fun hHeld => ?_)
          refine with_tabW ff.tab18 ff.bits18 (fun HT_ HW_ => ?_)
          have n1_ := Aside0.mk (blk_drew HX.out); have n2_ := Aside0.mk (blk_drew HY2.out); have n3_ := Aside0.mk (blk_drew HI2.out); have n4_ := Aside0.mk (blk_drew HO2.out); have n5_ := Aside0.mk (blk_drew HKF.out); have n6_ := Aside0.mk HB.out.drew; clear HX HY2 HI2 HO2 HKF HB; have HX := n1_; have HY2 := n2_; have HI2 := n3_; have HO2 := n4_; have HKF := n5_; have HB := n6_; clear n1_ n2_ n3_ n4_ n5_ n6_; generalize wr.drew = wd at HX HY2 HI2 HO2 HKF HB ⊢
          refine pure_ (i := 0) (N := some 64) (v := ?_) (a' := ?_) #[true, false, false, false, false, false, false, false, false, false, false, false, false, false, false, false, false, false, false, false, false, false, false, false, false, false, false, false, false, false, false, false, false, false, false, false, false, false, false, false, false, false, false, false, false] rfl rfl (any_of HT_.out (by kernel_rfl)) (fun _ _ _ h => h) (Or.inl ⟨by rfl, ?_⟩) ?_ ?_
          rotate_left
          · intro w'
            go_simp
            with_reducible rfl
          rotate_left
          · simp only [Act.put, List.setIfInBounds_toArray, List.set_cons_zero, List.set_cons_succ, i64_w, i32_w]
            rfl
          refine pure_ (i := 1) (N := some 65) (v := ?_) (a' := ?_) #[true, true, false, false, false, false, false, false, false, false, false, false, false, false, false, false, false, false, false, false, false, false, false, false, false, false, false, false, false, false, false, false, false, false, false, false, false, false, false, false, false, false, false, false, false] rfl rfl (any_of HT_.out (by kernel_rfl)) (fun _ _ _ h => h) (Or.inl ⟨by rfl, ?_⟩) ?_ ?_
          rotate_left
          · intro w'
            go_simp
            with_reducible rfl
          rotate_left
          · simp only [Act.put, List.setIfInBounds_toArray, List.set_cons_zero, List.set_cons_succ, i64_w, i32_w]
            rfl
          refine pure_ (i := 2) (N := some 66) (v := ?_) (a' := ?_) #[true, true, true, false, false, false, false, false, false, false, false, false, false, false, false, false, false, false, false, false, false, false, false, false, false, false, false, false, false, false, false, false, false, false, false, false, false, false, false, false, false, false, false, false, false] rfl rfl (any_of HT_.out (by kernel_rfl)) (fun _ _ _ h => h) (Or.inl ⟨by rfl, ?_⟩) ?_ ?_
          rotate_left
          · intro w'
            go_simp
            with_reducible rfl
          rotate_left
          · simp only [Act.put, List.setIfInBounds_toArray, List.set_cons_zero, List.set_cons_succ, i64_w, i32_w]
            rfl
          refine inv_at [3, 4, 5, 6, 7, 8, 9, 10, 11, 12, 13, 14, 15, 16, 17, 18, 19, 20, 21, 22, 23, 24, 25, 26, 27, 28, 29, 30, 31, 32, 33, 34, 35, 36, 37, 38, 39, 40, 41, 42, 43, 44] (fun a0_ b a w' => a = putSel a0_ b [(3, 67, .pointer (some ⟨g9, 0, none⟩)), (4, 68, .string (xa.extract 0 na)), (5, 69, .pointer (some ⟨g11, 0, none⟩)), (6, 70, .string xa), (7, 71, .pointer (some ⟨g11, 0, none⟩)), (8, 72, .string xa), (9, 73, .int .i64 (xa.size : Int)), (10, 74, .int .i64 (na : Int)), (11, 75, .string (xa.extract 0 na)), (12, 76, .bool true), (13, 77, .bool true), (14, 78, .pointer (some ⟨g9, 1, none⟩)), (15, 79, .int .i64 pa), (16, 80, .pointer (some ⟨g11, 1, none⟩)), (17, 81, .int .i64 pa), (18, 82, .bool true), (19, 83, .bool true), (20, 84, .bool true), (21, 85, .pointer (some ⟨kf, 0, none⟩)), (22, 86, .pointer (some ⟨kf, 0, none⟩)), (23, 87, .pointer (some ⟨kf, 0, none⟩)), (24, 88, .string (xb.extract 0 nb)), (25, 89, .pointer (some ⟨g12, 0, none⟩)), (26, 90, .string xb), (27, 91, .pointer (some ⟨g12, 0, none⟩)), (28, 92, .string xb), (29, 93, .int .i64 (xb.size : Int)), (30, 94, .int .i64 (nb : Int)), (31, 95, .string (xb.extract 0 nb)), (32, 96, .bool true), (33, 97, .bool true), (34, 98, .bool true), (35, 99, .pointer (some ⟨kf, 0, none⟩)), (36, 100, .pointer (some ⟨kf, 0, none⟩)), (37, 101, .pointer (some ⟨kf, 1, none⟩)), (38, 102, .int .i64 pb), (39, 103, .pointer (some ⟨g12, 1, none⟩)), (40, 104, .int .i64 pb), (41, 105, .bool true), (42, 106, .bool true), (43, 107, .bool true), (44, 4, .bool true)] ∧ (w'.heap[g7]? = some (.cells #[.pointer (some ⟨kf, 0, none⟩)] 37 (0, 0))) ∧ (w'.heap[g9]? = some (.cells #[.string (xa.extract 0 na), .int .i64 pa, fev] 39 (0, 0))) ∧ (w'.heap[g11]? = some (.cells #[.string xa, .int .i64 pa, .int .i64 qa, .bool ra] 24 (0, 0))) ∧ (w'.heap[g12]? = some (.cells #[.string xb, .int .i64 pb, .int .i64 qb, .bool rb] 24 (0, 0))) ∧ (w'.heap[kf]? = some (.cells #[.string (xb.extract 0 nb), .int .i64 pb, vf] 39 (0, 0))) ∧ (Below w.heap.size w w')) HT_.out HW_.out (by kernel_rfl) (by kernel_rfl) ?_ ?_ ?_
          · exact ⟨by simp only [putSel, Bool.false_eq_true, if_false], HX.out, HY2.out, HI2.out, HO2.out, HKF.out, HB.out⟩
          · skip
            clear HB HI2 HKF HO2 HX HY2
            refine steps_cons ?_ ?_
            · rintro b a w' ⟨ha, Q_HX, Q_HY2, Q_HI2, Q_HO2, Q_HKF, Q_HB⟩ hb_ hon hoff
              refine ⟨_, rfl, fun K hK => ?_⟩
              have e9 : a.tmps[9]? = some (.pointer (some ⟨g9, 0, none⟩)) := by rw [ha]; exact (putSel_off rfl).trans rfl
              have e66 : a.tmps[66]? = some (.bool false) := by rw [ha]; exact (putSel_off rfl).trans rfl
              replace ha := Aside0.mk ha
              have HX := Aside0.mk Q_HX
              have HY2 := Aside0.mk Q_HY2
              have HI2 := Aside0.mk Q_HI2
              have HO2 := Aside0.mk Q_HO2
              have HKF := Aside0.mk Q_HKF
              have HB := Aside0.mk Q_HB
              refine value_ (w1 := w') (v := .pointer (some ⟨g9, 0, none⟩)) (wanted_on rfl rfl rfl (e66.trans (by first | rfl | (simp [*]; done)))) rfl ?_ ?_
              · go_simp
                (try simp only [i64_w])
                try rfl
              refine hK.out _ _ ⟨(by rw [ha.out]; exact putSel_upk 0 hb_ rfl rfl rfl), Q_HX, Q_HY2, Q_HI2, Q_HO2, Q_HKF, Q_HB⟩
            refine steps_cons ?_ ?_
            · rintro b a w' ⟨ha, Q_HX, Q_HY2, Q_HI2, Q_HO2, Q_HKF, Q_HB⟩ hb_ hon hoff
              refine ⟨_, rfl, fun K hK => ?_⟩
              have e67 : a.tmps[67]? = some (.pointer (some ⟨g9, 0, none⟩)) := by rw [ha]; exact putSel_on (e := (3, 67, .pointer (some ⟨g9, 0, none⟩))) 0 rfl rfl (hon 3 (by kernel_rfl)) rfl
              have e66 : a.tmps[66]? = some (.bool false) := by rw [ha]; exact (putSel_off rfl).trans rfl
              replace ha := Aside0.mk ha
              have HX := Aside0.mk Q_HX
              have HY2 := Aside0.mk Q_HY2
              have HI2 := Aside0.mk Q_HI2
              have HO2 := Aside0.mk Q_HO2
              have HKF := Aside0.mk Q_HKF
              have HB := Aside0.mk Q_HB
              have hx_ := (blk_cell HY2.out 0).trans rfl
              refine value_ (w1 := w') (v := .string (xa.extract 0 na)) (wanted_on rfl rfl rfl (e66.trans (by first | rfl | (simp [*]; done)))) rfl ?_ ?_
              · go_simp
                (try simp only [i64_w])
                try rfl
              refine hK.out _ _ ⟨(by rw [ha.out]; exact putSel_upk 1 hb_ rfl rfl rfl), Q_HX, Q_HY2, Q_HI2, Q_HO2, Q_HKF, Q_HB⟩
            refine steps_cons ?_ ?_
            · rintro b a w' ⟨ha, Q_HX, Q_HY2, Q_HI2, Q_HO2, Q_HKF, Q_HB⟩ hb_ hon hoff
              refine ⟨_, rfl, fun K hK => ?_⟩
              have e11 : a.tmps[11]? = some (.pointer (some ⟨g11, 0, none⟩)) := by rw [ha]; exact (putSel_off rfl).trans rfl
              have e66 : a.tmps[66]? = some (.bool false) := by rw [ha]; exact (putSel_off rfl).trans rfl
              replace ha := Aside0.mk ha
              have HX := Aside0.mk Q_HX
              have HY2 := Aside0.mk Q_HY2
              have HI2 := Aside0.mk Q_HI2
              have HO2 := Aside0.mk Q_HO2
              have HKF := Aside0.mk Q_HKF
              have HB := Aside0.mk Q_HB
              refine value_ (w1 := w') (v := .pointer (some ⟨g11, 0, none⟩)) (wanted_on rfl rfl rfl (e66.trans (by first | rfl | (simp [*]; done)))) rfl ?_ ?_
              · go_simp
                (try simp only [i64_w])
                try rfl
              refine hK.out _ _ ⟨(by rw [ha.out]; exact putSel_upk 2 hb_ rfl rfl rfl), Q_HX, Q_HY2, Q_HI2, Q_HO2, Q_HKF, Q_HB⟩
            refine steps_cons ?_ ?_
            · rintro b a w' ⟨ha, Q_HX, Q_HY2, Q_HI2, Q_HO2, Q_HKF, Q_HB⟩ hb_ hon hoff
              refine ⟨_, rfl, fun K hK => ?_⟩
              have e69 : a.tmps[69]? = some (.pointer (some ⟨g11, 0, none⟩)) := by rw [ha]; exact putSel_on (e := (5, 69, .pointer (some ⟨g11, 0, none⟩))) 2 rfl rfl (hon 5 (by kernel_rfl)) rfl
              have e66 : a.tmps[66]? = some (.bool false) := by rw [ha]; exact (putSel_off rfl).trans rfl
              replace ha := Aside0.mk ha
              have HX := Aside0.mk Q_HX
              have HY2 := Aside0.mk Q_HY2
              have HI2 := Aside0.mk Q_HI2
              have HO2 := Aside0.mk Q_HO2
              have HKF := Aside0.mk Q_HKF
              have HB := Aside0.mk Q_HB
              have hx_ := (blk_cell HI2.out 0).trans rfl
              refine value_ (w1 := w') (v := .string xa) (wanted_on rfl rfl rfl (e66.trans (by first | rfl | (simp [*]; done)))) rfl ?_ ?_
              · go_simp
                (try simp only [i64_w])
                try rfl
              refine hK.out _ _ ⟨(by rw [ha.out]; exact putSel_upk 3 hb_ rfl rfl rfl), Q_HX, Q_HY2, Q_HI2, Q_HO2, Q_HKF, Q_HB⟩
            refine steps_cons ?_ ?_
            · rintro b a w' ⟨ha, Q_HX, Q_HY2, Q_HI2, Q_HO2, Q_HKF, Q_HB⟩ hb_ hon hoff
              refine ⟨_, rfl, fun K hK => ?_⟩
              have e11 : a.tmps[11]? = some (.pointer (some ⟨g11, 0, none⟩)) := by rw [ha]; exact (putSel_off rfl).trans rfl
              have e66 : a.tmps[66]? = some (.bool false) := by rw [ha]; exact (putSel_off rfl).trans rfl
              replace ha := Aside0.mk ha
              have HX := Aside0.mk Q_HX
              have HY2 := Aside0.mk Q_HY2
              have HI2 := Aside0.mk Q_HI2
              have HO2 := Aside0.mk Q_HO2
              have HKF := Aside0.mk Q_HKF
              have HB := Aside0.mk Q_HB
              refine value_ (w1 := w') (v := .pointer (some ⟨g11, 0, none⟩)) (wanted_on rfl rfl rfl (e66.trans (by first | rfl | (simp [*]; done)))) rfl ?_ ?_
              · go_simp
                (try simp only [i64_w])
                try rfl
              refine hK.out _ _ ⟨(by rw [ha.out]; exact putSel_upk 4 hb_ rfl rfl rfl), Q_HX, Q_HY2, Q_HI2, Q_HO2, Q_HKF, Q_HB⟩
            refine steps_cons ?_ ?_
            · rintro b a w' ⟨ha, Q_HX, Q_HY2, Q_HI2, Q_HO2, Q_HKF, Q_HB⟩ hb_ hon hoff
              refine ⟨_, rfl, fun K hK => ?_⟩
              have e71 : a.tmps[71]? = some (.pointer (some ⟨g11, 0, none⟩)) := by rw [ha]; exact putSel_on (e := (7, 71, .pointer (some ⟨g11, 0, none⟩))) 4 rfl rfl (hon 7 (by kernel_rfl)) rfl
              have e66 : a.tmps[66]? = some (.bool false) := by rw [ha]; exact (putSel_off rfl).trans rfl
              replace ha := Aside0.mk ha
              have HX := Aside0.mk Q_HX
              have HY2 := Aside0.mk Q_HY2
              have HI2 := Aside0.mk Q_HI2
              have HO2 := Aside0.mk Q_HO2
              have HKF := Aside0.mk Q_HKF
              have HB := Aside0.mk Q_HB
              have hx_ := (blk_cell HI2.out 0).trans rfl
              refine value_ (w1 := w') (v := .string xa) (wanted_on rfl rfl rfl (e66.trans (by first | rfl | (simp [*]; done)))) rfl ?_ ?_
              · go_simp
                (try simp only [i64_w])
                try rfl
              refine hK.out _ _ ⟨(by rw [ha.out]; exact putSel_upk 5 hb_ rfl rfl rfl), Q_HX, Q_HY2, Q_HI2, Q_HO2, Q_HKF, Q_HB⟩
            refine steps_cons ?_ ?_
            · rintro b a w' ⟨ha, Q_HX, Q_HY2, Q_HI2, Q_HO2, Q_HKF, Q_HB⟩ hb_ hon hoff
              refine ⟨_, rfl, fun K hK => ?_⟩
              have e72 : a.tmps[72]? = some (.string xa) := by rw [ha]; exact putSel_on (e := (8, 72, .string xa)) 5 rfl rfl (hon 8 (by kernel_rfl)) rfl
              have e66 : a.tmps[66]? = some (.bool false) := by rw [ha]; exact (putSel_off rfl).trans rfl
              replace ha := Aside0.mk ha
              have HX := Aside0.mk Q_HX
              have HY2 := Aside0.mk Q_HY2
              have HI2 := Aside0.mk Q_HI2
              have HO2 := Aside0.mk Q_HO2
              have HKF := Aside0.mk Q_HKF
              have HB := Aside0.mk Q_HB
              refine value_ (w1 := w') (v := .int .i64 (xa.size : Int)) (wanted_on rfl rfl rfl (e66.trans (by first | rfl | (simp [*]; done)))) rfl ?_ ?_
              · go_simp
                (try simp only [i64_w])
                try rfl
              refine hK.out _ _ ⟨(by rw [ha.out]; exact putSel_upk 6 hb_ rfl rfl rfl), Q_HX, Q_HY2, Q_HI2, Q_HO2, Q_HKF, Q_HB⟩
            refine steps_cons ?_ ?_
            · rintro b a w' ⟨ha, Q_HX, Q_HY2, Q_HI2, Q_HO2, Q_HKF, Q_HB⟩ hb_ hon hoff
              refine ⟨_, rfl, fun K hK => ?_⟩
              have e73 : a.tmps[73]? = some (.int .i64 (xa.size : Int)) := by rw [ha]; exact putSel_on (e := (9, 73, .int .i64 (xa.size : Int))) 6 rfl rfl (hon 9 (by kernel_rfl)) rfl
              have e66 : a.tmps[66]? = some (.bool false) := by rw [ha]; exact (putSel_off rfl).trans rfl
              replace ha := Aside0.mk ha
              have HX := Aside0.mk Q_HX
              have HY2 := Aside0.mk Q_HY2
              have HI2 := Aside0.mk Q_HI2
              have HO2 := Aside0.mk Q_HO2
              have HKF := Aside0.mk Q_HKF
              have HB := Aside0.mk Q_HB
              refine value_ (w1 := w') (v := .int .i64 (na : Int)) (wanted_on rfl rfl rfl (e66.trans (by first | rfl | (simp [*]; done)))) rfl ?_ ?_
              · go_simp
                (try simp only [i64_w])
                try rfl
              refine hK.out _ _ ⟨(by rw [ha.out]; exact putSel_upk 7 hb_ rfl rfl rfl), Q_HX, Q_HY2, Q_HI2, Q_HO2, Q_HKF, Q_HB⟩
            refine steps_cons ?_ ?_
            · rintro b a w' ⟨ha, Q_HX, Q_HY2, Q_HI2, Q_HO2, Q_HKF, Q_HB⟩ hb_ hon hoff
              refine ⟨_, rfl, fun K hK => ?_⟩
              have e70 : a.tmps[70]? = some (.string xa) := by rw [ha]; exact putSel_on (e := (6, 70, .string xa)) 3 rfl rfl (hon 6 (by kernel_rfl)) rfl
              have e74 : a.tmps[74]? = some (.int .i64 (na : Int)) := by rw [ha]; exact putSel_on (e := (10, 74, .int .i64 (na : Int))) 7 rfl rfl (hon 10 (by kernel_rfl)) rfl
              have e66 : a.tmps[66]? = some (.bool false) := by rw [ha]; exact (putSel_off rfl).trans rfl
              replace ha := Aside0.mk ha
              have HX := Aside0.mk Q_HX
              have HY2 := Aside0.mk Q_HY2
              have HI2 := Aside0.mk Q_HI2
              have HO2 := Aside0.mk Q_HO2
              have HKF := Aside0.mk Q_HKF
              have HB := Aside0.mk Q_HB
              refine value_ (w1 := w') (v := .string (xa.extract 0 na)) (wanted_on rfl rfl rfl (e66.trans (by first | rfl | (simp [*]; done)))) rfl ?_ ?_
              · go_simp
                (try simp only [i64_w])
                try rfl
              refine hK.out _ _ ⟨(by rw [ha.out]; exact putSel_upk 8 hb_ rfl rfl rfl), Q_HX, Q_HY2, Q_HI2, Q_HO2, Q_HKF, Q_HB⟩
            refine steps_cons ?_ ?_
            · rintro b a w' ⟨ha, Q_HX, Q_HY2, Q_HI2, Q_HO2, Q_HKF, Q_HB⟩ hb_ hon hoff
              refine ⟨_, rfl, fun K hK => ?_⟩
              have e68 : a.tmps[68]? = some (.string (xa.extract 0 na)) := by rw [ha]; exact putSel_on (e := (4, 68, .string (xa.extract 0 na))) 1 rfl rfl (hon 4 (by kernel_rfl)) rfl
              have e75 : a.tmps[75]? = some (.string (xa.extract 0 na)) := by rw [ha]; exact putSel_on (e := (11, 75, .string (xa.extract 0 na))) 8 rfl rfl (hon 11 (by kernel_rfl)) rfl
              have e66 : a.tmps[66]? = some (.bool false) := by rw [ha]; exact (putSel_off rfl).trans rfl
              replace ha := Aside0.mk ha
              have HX := Aside0.mk Q_HX
              have HY2 := Aside0.mk Q_HY2
              have HI2 := Aside0.mk Q_HI2
              have HO2 := Aside0.mk Q_HO2
              have HKF := Aside0.mk Q_HKF
              have HB := Aside0.mk Q_HB
              refine value_ (w1 := w') (v := .bool true) (wanted_on rfl rfl rfl (e66.trans (by first | rfl | (simp [*]; done)))) rfl ?_ ?_
              · go_simp
                (try simp only [i64_w])
                try rfl
              refine hK.out _ _ ⟨(by rw [ha.out]; exact putSel_upk 9 hb_ rfl rfl rfl), Q_HX, Q_HY2, Q_HI2, Q_HO2, Q_HKF, Q_HB⟩
            refine steps_cons ?_ ?_
            · rintro b a w' ⟨ha, Q_HX, Q_HY2, Q_HI2, Q_HO2, Q_HKF, Q_HB⟩ hb_ hon hoff
              refine ⟨_, rfl, fun K hK => ?_⟩
              have e76 : a.tmps[76]? = some (.bool true) := by rw [ha]; exact putSel_on (e := (12, 76, .bool true)) 9 rfl rfl (hon 12 (by kernel_rfl)) rfl
              have e66 : a.tmps[66]? = some (.bool false) := by rw [ha]; exact (putSel_off rfl).trans rfl
              replace ha := Aside0.mk ha
              have HX := Aside0.mk Q_HX
              have HY2 := Aside0.mk Q_HY2
              have HI2 := Aside0.mk Q_HI2
              have HO2 := Aside0.mk Q_HO2
              have HKF := Aside0.mk Q_HKF
              have HB := Aside0.mk Q_HB
              refine value_ (w1 := w') (v := .bool true) (wanted_on rfl rfl rfl (e66.trans (by first | rfl | (simp [*]; done)))) rfl ?_ ?_
              · go_simp
                (try simp only [i64_w])
                try rfl
              refine hK.out _ _ ⟨(by rw [ha.out]; exact putSel_upk 10 hb_ rfl rfl rfl), Q_HX, Q_HY2, Q_HI2, Q_HO2, Q_HKF, Q_HB⟩
            refine steps_cons ?_ ?_
            · rintro b a w' ⟨ha, Q_HX, Q_HY2, Q_HI2, Q_HO2, Q_HKF, Q_HB⟩ hb_ hon hoff
              refine ⟨_, rfl, fun K hK => ?_⟩
              have e9 : a.tmps[9]? = some (.pointer (some ⟨g9, 0, none⟩)) := by rw [ha]; exact (putSel_off rfl).trans rfl
              have e77 : a.tmps[77]? = some (.bool true) := by rw [ha]; exact putSel_on (e := (13, 77, .bool true)) 10 rfl rfl (hon 13 (by kernel_rfl)) rfl
              replace ha := Aside0.mk ha
              have HX := Aside0.mk Q_HX
              have HY2 := Aside0.mk Q_HY2
              have HI2 := Aside0.mk Q_HI2
              have HO2 := Aside0.mk Q_HO2
              have HKF := Aside0.mk Q_HKF
              have HB := Aside0.mk Q_HB
              refine value_ (w1 := w') (v := .pointer (some ⟨g9, 1, none⟩)) (wanted_on rfl rfl rfl (e77.trans (by first | rfl | (simp [*]; done)))) rfl ?_ ?_
              · go_simp
                (try simp only [i64_w])
                try rfl
              refine hK.out _ _ ⟨(by rw [ha.out]; exact putSel_upk 11 hb_ rfl rfl rfl), Q_HX, Q_HY2, Q_HI2, Q_HO2, Q_HKF, Q_HB⟩
            refine steps_cons ?_ ?_
            · rintro b a w' ⟨ha, Q_HX, Q_HY2, Q_HI2, Q_HO2, Q_HKF, Q_HB⟩ hb_ hon hoff
              refine ⟨_, rfl, fun K hK => ?_⟩
              have e78 : a.tmps[78]? = some (.pointer (some ⟨g9, 1, none⟩)) := by rw [ha]; exact putSel_on (e := (14, 78, .pointer (some ⟨g9, 1, none⟩))) 11 rfl rfl (hon 14 (by kernel_rfl)) rfl
              have e77 : a.tmps[77]? = some (.bool true) := by rw [ha]; exact putSel_on (e := (13, 77, .bool true)) 10 rfl rfl (hon 13 (by kernel_rfl)) rfl
              replace ha := Aside0.mk ha
              have HX := Aside0.mk Q_HX
              have HY2 := Aside0.mk Q_HY2
              have HI2 := Aside0.mk Q_HI2
              have HO2 := Aside0.mk Q_HO2
              have HKF := Aside0.mk Q_HKF
              have HB := Aside0.mk Q_HB
              have hx_ := (blk_cell HY2.out 1).trans rfl
              refine value_ (w1 := w') (v := .int .i64 pa) (wanted_on rfl rfl rfl (e77.trans (by first | rfl | (simp [*]; done)))) rfl ?_ ?_
              · go_simp
                (try simp only [i64_w])
                try rfl
              refine hK.out _ _ ⟨(by rw [ha.out]; exact putSel_upk 12 hb_ rfl rfl rfl), Q_HX, Q_HY2, Q_HI2, Q_HO2, Q_HKF, Q_HB⟩
            refine steps_cons ?_ ?_
            · rintro b a w' ⟨ha, Q_HX, Q_HY2, Q_HI2, Q_HO2, Q_HKF, Q_HB⟩ hb_ hon hoff
              refine ⟨_, rfl, fun K hK => ?_⟩
              have e11 : a.tmps[11]? = some (.pointer (some ⟨g11, 0, none⟩)) := by rw [ha]; exact (putSel_off rfl).trans rfl
              have e77 : a.tmps[77]? = some (.bool true) := by rw [ha]; exact putSel_on (e := (13, 77, .bool true)) 10 rfl rfl (hon 13 (by kernel_rfl)) rfl
              replace ha := Aside0.mk ha
              have HX := Aside0.mk Q_HX
              have HY2 := Aside0.mk Q_HY2
              have HI2 := Aside0.mk Q_HI2
              have HO2 := Aside0.mk Q_HO2
              have HKF := Aside0.mk Q_HKF
              have HB := Aside0.mk Q_HB
              refine value_ (w1 := w') (v := .pointer (some ⟨g11, 1, none⟩)) (wanted_on rfl rfl rfl (e77.trans (by first | rfl | (simp [*]; done)))) rfl ?_ ?_
              · go_simp
                (try simp only [i64_w])
                try rfl
              refine hK.out _ _ ⟨(by rw [ha.out]; exact putSel_upk 13 hb_ rfl rfl rfl), Q_HX, Q_HY2, Q_HI2, Q_HO2, Q_HKF, Q_HB⟩
            refine steps_cons ?_ ?_
            · rintro b a w' ⟨ha, Q_HX, Q_HY2, Q_HI2, Q_HO2, Q_HKF, Q_HB⟩ hb_ hon hoff
              refine ⟨_, rfl, fun K hK => ?_⟩
              have e80 : a.tmps[80]? = some (.pointer (some ⟨g11, 1, none⟩)) := by rw [ha]; exact putSel_on (e := (16, 80, .pointer (some ⟨g11, 1, none⟩))) 13 rfl rfl (hon 16 (by kernel_rfl)) rfl
              have e77 : a.tmps[77]? = some (.bool true) := by rw [ha]; exact putSel_on (e := (13, 77, .bool true)) 10 rfl rfl (hon 13 (by kernel_rfl)) rfl
              replace ha := Aside0.mk ha
              have HX := Aside0.mk Q_HX
              have HY2 := Aside0.mk Q_HY2
              have HI2 := Aside0.mk Q_HI2
              have HO2 := Aside0.mk Q_HO2
              have HKF := Aside0.mk Q_HKF
              have HB := Aside0.mk Q_HB
              have hx_ := (blk_cell HI2.out 1).trans rfl
              refine value_ (w1 := w') (v := .int .i64 pa) (wanted_on rfl rfl rfl (e77.trans (by first | rfl | (simp [*]; done)))) rfl ?_ ?_
              · go_simp
                (try simp only [i64_w])
                try rfl
              refine hK.out _ _ ⟨(by rw [ha.out]; exact putSel_upk 14 hb_ rfl rfl rfl), Q_HX, Q_HY2, Q_HI2, Q_HO2, Q_HKF, Q_HB⟩
            refine steps_cons ?_ ?_
            · rintro b a w' ⟨ha, Q_HX, Q_HY2, Q_HI2, Q_HO2, Q_HKF, Q_HB⟩ hb_ hon hoff
              refine ⟨_, rfl, fun K hK => ?_⟩
              have e79 : a.tmps[79]? = some (.int .i64 pa) := by rw [ha]; exact putSel_on (e := (15, 79, .int .i64 pa)) 12 rfl rfl (hon 15 (by kernel_rfl)) rfl
              have e81 : a.tmps[81]? = some (.int .i64 pa) := by rw [ha]; exact putSel_on (e := (17, 81, .int .i64 pa)) 14 rfl rfl (hon 17 (by kernel_rfl)) rfl
              have e77 : a.tmps[77]? = some (.bool true) := by rw [ha]; exact putSel_on (e := (13, 77, .bool true)) 10 rfl rfl (hon 13 (by kernel_rfl)) rfl
              replace ha := Aside0.mk ha
              have HX := Aside0.mk Q_HX
              have HY2 := Aside0.mk Q_HY2
              have HI2 := Aside0.mk Q_HI2
              have HO2 := Aside0.mk Q_HO2
              have HKF := Aside0.mk Q_HKF
              have HB := Aside0.mk Q_HB
              refine value_ (w1 := w') (v := .bool true) (wanted_on rfl rfl rfl (e77.trans (by first | rfl | (simp [*]; done)))) rfl ?_ ?_
              · go_simp
                (try simp only [i64_w])
                try rfl
              refine hK.out _ _ ⟨(by rw [ha.out]; exact putSel_upk 15 hb_ rfl rfl rfl), Q_HX, Q_HY2, Q_HI2, Q_HO2, Q_HKF, Q_HB⟩
            refine steps_cons ?_ ?_
            · rintro b a w' ⟨ha, Q_HX, Q_HY2, Q_HI2, Q_HO2, Q_HKF, Q_HB⟩ hb_ hon hoff
              refine ⟨_, rfl, fun K hK => ?_⟩
              have e77 : a.tmps[77]? = some (.bool true) := by rw [ha]; exact putSel_on (e := (13, 77, .bool true)) 10 rfl rfl (hon 13 (by kernel_rfl)) rfl
              have e82 : a.tmps[82]? = some (.bool true) := by rw [ha]; exact putSel_on (e := (18, 82, .bool true)) 15 rfl rfl (hon 18 (by kernel_rfl)) rfl
              have e66 : a.tmps[66]? = some (.bool false) := by rw [ha]; exact (putSel_off rfl).trans rfl
              replace ha := Aside0.mk ha
              have HX := Aside0.mk Q_HX
              have HY2 := Aside0.mk Q_HY2
              have HI2 := Aside0.mk Q_HI2
              have HO2 := Aside0.mk Q_HO2
              have HKF := Aside0.mk Q_HKF
              have HB := Aside0.mk Q_HB
              refine value_ (w1 := w') (v := .bool true) (wanted_on rfl rfl rfl (e66.trans (by first | rfl | (simp [*]; done)))) rfl ?_ ?_
              · go_simp
                (try simp only [i64_w])
                try rfl
              refine hK.out _ _ ⟨(by rw [ha.out]; exact putSel_upk 16 hb_ rfl rfl rfl), Q_HX, Q_HY2, Q_HI2, Q_HO2, Q_HKF, Q_HB⟩
            refine steps_cons ?_ ?_
            · rintro b a w' ⟨ha, Q_HX, Q_HY2, Q_HI2, Q_HO2, Q_HKF, Q_HB⟩ hb_ hon hoff
              refine ⟨_, rfl, fun K hK => ?_⟩
              have e83 : a.tmps[83]? = some (.bool true) := by rw [ha]; exact putSel_on (e := (19, 83, .bool true)) 16 rfl rfl (hon 19 (by kernel_rfl)) rfl
              have e66 : a.tmps[66]? = some (.bool false) := by rw [ha]; exact (putSel_off rfl).trans rfl
              replace ha := Aside0.mk ha
              have HX := Aside0.mk Q_HX
              have HY2 := Aside0.mk Q_HY2
              have HI2 := Aside0.mk Q_HI2
              have HO2 := Aside0.mk Q_HO2
              have HKF := Aside0.mk Q_HKF
              have HB := Aside0.mk Q_HB
              refine value_ (w1 := w') (v := .bool true) (wanted_on rfl rfl rfl (e66.trans (by first | rfl | (simp [*]; done)))) rfl ?_ ?_
              · go_simp
                (try simp only [i64_w])
                try rfl
              refine hK.out _ _ ⟨(by rw [ha.out]; exact putSel_upk 17 hb_ rfl rfl rfl), Q_HX, Q_HY2, Q_HI2, Q_HO2, Q_HKF, Q_HB⟩
            refine steps_cons ?_ ?_
            · rintro b a w' ⟨ha, Q_HX, Q_HY2, Q_HI2, Q_HO2, Q_HKF, Q_HB⟩ hb_ hon hoff
              refine ⟨_, rfl, fun K hK => ?_⟩
              have e7 : a.tmps[7]? = some (.pointer (some ⟨g7, 0, none⟩)) := by rw [ha]; exact (putSel_off rfl).trans rfl
              have e84 : a.tmps[84]? = some (.bool true) := by rw [ha]; exact putSel_on (e := (20, 84, .bool true)) 17 rfl rfl (hon 20 (by kernel_rfl)) rfl
              replace ha := Aside0.mk ha
              have HX := Aside0.mk Q_HX
              have HY2 := Aside0.mk Q_HY2
              have HI2 := Aside0.mk Q_HI2
              have HO2 := Aside0.mk Q_HO2
              have HKF := Aside0.mk Q_HKF
              have HB := Aside0.mk Q_HB
              have hx_ := (blk_cell HX.out 0).trans rfl
              refine value_ (w1 := w') (v := .pointer (some ⟨kf, 0, none⟩)) (wanted_on rfl rfl rfl (e84.trans (by first | rfl | (simp [*]; done)))) rfl ?_ ?_
              · go_simp
                (try simp only [i64_w])
                try rfl
              refine hK.out _ _ ⟨(by rw [ha.out]; exact putSel_upk 18 hb_ rfl rfl rfl), Q_HX, Q_HY2, Q_HI2, Q_HO2, Q_HKF, Q_HB⟩
            refine steps_cons ?_ ?_
            · rintro b a w' ⟨ha, Q_HX, Q_HY2, Q_HI2, Q_HO2, Q_HKF, Q_HB⟩ hb_ hon hoff
              refine ⟨_, rfl, fun K hK => ?_⟩
              have e85 : a.tmps[85]? = some (.pointer (some ⟨kf, 0, none⟩)) := by rw [ha]; exact putSel_on (e := (21, 85, .pointer (some ⟨kf, 0, none⟩))) 18 rfl rfl (hon 21 (by kernel_rfl)) rfl
              have e84 : a.tmps[84]? = some (.bool true) := by rw [ha]; exact putSel_on (e := (20, 84, .bool true)) 17 rfl rfl (hon 20 (by kernel_rfl)) rfl
              replace ha := Aside0.mk ha
              have HX := Aside0.mk Q_HX
              have HY2 := Aside0.mk Q_HY2
              have HI2 := Aside0.mk Q_HI2
              have HO2 := Aside0.mk Q_HO2
              have HKF := Aside0.mk Q_HKF
              have HB := Aside0.mk Q_HB
              refine value_ (w1 := w') (v := .pointer (some ⟨kf, 0, none⟩)) (wanted_on rfl rfl rfl (e84.trans (by first | rfl | (simp [*]; done)))) rfl ?_ ?_
              · go_simp
                (try simp only [i64_w])
                try rfl
              refine hK.out _ _ ⟨(by rw [ha.out]; exact putSel_upk 19 hb_ rfl rfl rfl), Q_HX, Q_HY2, Q_HI2, Q_HO2, Q_HKF, Q_HB⟩
            refine steps_cons ?_ ?_
            · rintro b a w' ⟨ha, Q_HX, Q_HY2, Q_HI2, Q_HO2, Q_HKF, Q_HB⟩ hb_ hon hoff
              refine ⟨_, rfl, fun K hK => ?_⟩
              have e86 : a.tmps[86]? = some (.pointer (some ⟨kf, 0, none⟩)) := by rw [ha]; exact putSel_on (e := (22, 86, .pointer (some ⟨kf, 0, none⟩))) 19 rfl rfl (hon 22 (by kernel_rfl)) rfl
              have e84 : a.tmps[84]? = some (.bool true) := by rw [ha]; exact putSel_on (e := (20, 84, .bool true)) 17 rfl rfl (hon 20 (by kernel_rfl)) rfl
              replace ha := Aside0.mk ha
              have HX := Aside0.mk Q_HX
              have HY2 := Aside0.mk Q_HY2
              have HI2 := Aside0.mk Q_HI2
              have HO2 := Aside0.mk Q_HO2
              have HKF := Aside0.mk Q_HKF
              have HB := Aside0.mk Q_HB
              refine value_ (w1 := w') (v := .pointer (some ⟨kf, 0, none⟩)) (wanted_on rfl rfl rfl (e84.trans (by first | rfl | (simp [*]; done)))) rfl ?_ ?_
              · go_simp
                (try simp only [i64_w])
                try rfl
              refine hK.out _ _ ⟨(by rw [ha.out]; exact putSel_upk 20 hb_ rfl rfl rfl), Q_HX, Q_HY2, Q_HI2, Q_HO2, Q_HKF, Q_HB⟩
            refine steps_cons ?_ ?_
            · rintro b a w' ⟨ha, Q_HX, Q_HY2, Q_HI2, Q_HO2, Q_HKF, Q_HB⟩ hb_ hon hoff
              refine ⟨_, rfl, fun K hK => ?_⟩
              have e87 : a.tmps[87]? = some (.pointer (some ⟨kf, 0, none⟩)) := by rw [ha]; exact putSel_on (e := (23, 87, .pointer (some ⟨kf, 0, none⟩))) 20 rfl rfl (hon 23 (by kernel_rfl)) rfl
              have e84 : a.tmps[84]? = some (.bool true) := by rw [ha]; exact putSel_on (e := (20, 84, .bool true)) 17 rfl rfl (hon 20 (by kernel_rfl)) rfl
              replace ha := Aside0.mk ha
              have HX := Aside0.mk Q_HX
              have HY2 := Aside0.mk Q_HY2
              have HI2 := Aside0.mk Q_HI2
              have HO2 := Aside0.mk Q_HO2
              have HKF := Aside0.mk Q_HKF
              have HB := Aside0.mk Q_HB
              have hx_ := (blk_cell HKF.out 0).trans rfl
              refine value_ (w1 := w') (v := .string (xb.extract 0 nb)) (wanted_on rfl rfl rfl (e84.trans (by first | rfl | (simp [*]; done)))) rfl ?_ ?_
              · go_simp
                (try simp only [i64_w])
                try rfl
              refine hK.out _ _ ⟨(by rw [ha.out]; exact putSel_upk 21 hb_ rfl rfl rfl), Q_HX, Q_HY2, Q_HI2, Q_HO2, Q_HKF, Q_HB⟩
            refine steps_cons ?_ ?_
            · rintro b a w' ⟨ha, Q_HX, Q_HY2, Q_HI2, Q_HO2, Q_HKF, Q_HB⟩ hb_ hon hoff
              refine ⟨_, rfl, fun K hK => ?_⟩
              have e12 : a.tmps[12]? = some (.pointer (some ⟨g12, 0, none⟩)) := by rw [ha]; exact (putSel_off rfl).trans rfl
              have e84 : a.tmps[84]? = some (.bool true) := by rw [ha]; exact putSel_on (e := (20, 84, .bool true)) 17 rfl rfl (hon 20 (by kernel_rfl)) rfl
              replace ha := Aside0.mk ha
              have HX := Aside0.mk Q_HX
              have HY2 := Aside0.mk Q_HY2
              have HI2 := Aside0.mk Q_HI2
              have HO2 := Aside0.mk Q_HO2
              have HKF := Aside0.mk Q_HKF
              have HB := Aside0.mk Q_HB
              refine value_ (w1 := w') (v := .pointer (some ⟨g12, 0, none⟩)) (wanted_on rfl rfl rfl (e84.trans (by first | rfl | (simp [*]; done)))) rfl ?_ ?_
              · go_simp
                (try simp only [i64_w])
                try rfl
              refine hK.out _ _ ⟨(by rw [ha.out]; exact putSel_upk 22 hb_ rfl rfl rfl), Q_HX, Q_HY2, Q_HI2, Q_HO2, Q_HKF, Q_HB⟩
            refine steps_cons ?_ ?_
            · rintro b a w' ⟨ha, Q_HX, Q_HY2, Q_HI2, Q_HO2, Q_HKF, Q_HB⟩ hb_ hon hoff
              refine ⟨_, rfl, fun K hK => ?_⟩
              have e89 : a.tmps[89]? = some (.pointer (some ⟨g12, 0, none⟩)) := by rw [ha]; exact putSel_on (e := (25, 89, .pointer (some ⟨g12, 0, none⟩))) 22 rfl rfl (hon 25 (by kernel_rfl)) rfl
              have e84 : a.tmps[84]? = some (.bool true) := by rw [ha]; exact putSel_on (e := (20, 84, .bool true)) 17 rfl rfl (hon 20 (by kernel_rfl)) rfl
              replace ha := Aside0.mk ha
              have HX := Aside0.mk Q_HX
              have HY2 := Aside0.mk Q_HY2
              have HI2 := Aside0.mk Q_HI2
              have HO2 := Aside0.mk Q_HO2
              have HKF := Aside0.mk Q_HKF
              have HB := Aside0.mk Q_HB
              have hx_ := (blk_cell HO2.out 0).trans rfl
              refine value_ (w1 := w') (v := .string xb) (wanted_on rfl rfl rfl (e84.trans (by first | rfl | (simp [*]; done)))) rfl ?_ ?_
              · go_simp
                (try simp only [i64_w])
                try rfl
              refine hK.out _ _ ⟨(by rw [ha.out]; exact putSel_upk 23 hb_ rfl rfl rfl), Q_HX, Q_HY2, Q_HI2, Q_HO2, Q_HKF, Q_HB⟩
            refine steps_cons ?_ ?_
            · rintro b a w' ⟨ha, Q_HX, Q_HY2, Q_HI2, Q_HO2, Q_HKF, Q_HB⟩ hb_ hon hoff
              refine ⟨_, rfl, fun K hK => ?_⟩
              have e12 : a.tmps[12]? = some (.pointer (some ⟨g12, 0, none⟩)) := by rw [ha]; exact (putSel_off rfl).trans rfl
              have e84 : a.tmps[84]? = some (.bool true) := by rw [ha]; exact putSel_on (e := (20, 84, .bool true)) 17 rfl rfl (hon 20 (by kernel_rfl)) rfl
              replace ha := Aside0.mk ha
              have HX := Aside0.mk Q_HX
              have HY2 := Aside0.mk Q_HY2
              have HI2 := Aside0.mk Q_HI2
              have HO2 := Aside0.mk Q_HO2
              have HKF := Aside0.mk Q_HKF
              have HB := Aside0.mk Q_HB
              refine value_ (w1 := w') (v := .pointer (some ⟨g12, 0, none⟩)) (wanted_on rfl rfl rfl (e84.trans (by first | rfl | (simp [*]; done)))) rfl ?_ ?_
              · go_simp
                (try simp only [i64_w])
                try rfl
              refine hK.out _ _ ⟨(by rw [ha.out]; exact putSel_upk 24 hb_ rfl rfl rfl), Q_HX, Q_HY2, Q_HI2, Q_HO2, Q_HKF, Q_HB⟩
            refine steps_cons ?_ ?_
            · rintro b a w' ⟨ha, Q_HX, Q_HY2, Q_HI2, Q_HO2, Q_HKF, Q_HB⟩ hb_ hon hoff
              refine ⟨_, rfl, fun K hK => ?_⟩
              have e91 : a.tmps[91]? = some (.pointer (some ⟨g12, 0, none⟩)) := by rw [ha]; exact putSel_on (e := (27, 91, .pointer (some ⟨g12, 0, none⟩))) 24 rfl rfl (hon 27 (by kernel_rfl)) rfl
              have e84 : a.tmps[84]? = some (.bool true) := by rw [ha]; exact putSel_on (e := (20, 84, .bool true)) 17 rfl rfl (hon 20 (by kernel_rfl)) rfl
              replace ha := Aside0.mk ha
              have HX := Aside0.mk Q_HX
              have HY2 := Aside0.mk Q_HY2
              have HI2 := Aside0.mk Q_HI2
              have HO2 := Aside0.mk Q_HO2
              have HKF := Aside0.mk Q_HKF
              have HB := Aside0.mk Q_HB
              have hx_ := (blk_cell HO2.out 0).trans rfl
              refine value_ (w1 := w') (v := .string xb) (wanted_on rfl rfl rfl (e84.trans (by first | rfl | (simp [*]; done)))) rfl ?_ ?_
              · go_simp
                (try simp only [i64_w])
                try rfl
              refine hK.out _ _ ⟨(by rw [ha.out]; exact putSel_upk 25 hb_ rfl rfl rfl), Q_HX, Q_HY2, Q_HI2, Q_HO2, Q_HKF, Q_HB⟩
            refine steps_cons ?_ ?_
            · rintro b a w' ⟨ha, Q_HX, Q_HY2, Q_HI2, Q_HO2, Q_HKF, Q_HB⟩ hb_ hon hoff
              refine ⟨_, rfl, fun K hK => ?_⟩
              have e92 : a.tmps[92]? = some (.string xb) := by rw [ha]; exact putSel_on (e := (28, 92, .string xb)) 25 rfl rfl (hon 28 (by kernel_rfl)) rfl
              have e84 : a.tmps[84]? = some (.bool true) := by rw [ha]; exact putSel_on (e := (20, 84, .bool true)) 17 rfl rfl (hon 20 (by kernel_rfl)) rfl
              replace ha := Aside0.mk ha
              have HX := Aside0.mk Q_HX
              have HY2 := Aside0.mk Q_HY2
              have HI2 := Aside0.mk Q_HI2
              have HO2 := Aside0.mk Q_HO2
              have HKF := Aside0.mk Q_HKF
              have HB := Aside0.mk Q_HB
              refine value_ (w1 := w') (v := .int .i64 (xb.size : Int)) (wanted_on rfl rfl rfl (e84.trans (by first | rfl | (simp [*]; done)))) rfl ?_ ?_
              · go_simp
                (try simp only [i64_w])
                try rfl
              refine hK.out _ _ ⟨(by rw [ha.out]; exact putSel_upk 26 hb_ rfl rfl rfl), Q_HX, Q_HY2, Q_HI2, Q_HO2, Q_HKF, Q_HB⟩
            refine steps_cons ?_ ?_
            · rintro b a w' ⟨ha, Q_HX, Q_HY2, Q_HI2, Q_HO2, Q_HKF, Q_HB⟩ hb_ hon hoff
              refine ⟨_, rfl, fun K hK => ?_⟩
              have e93 : a.tmps[93]? = some (.int .i64 (xb.size : Int)) := by rw [ha]; exact putSel_on (e := (29, 93, .int .i64 (xb.size : Int))) 26 rfl rfl (hon 29 (by kernel_rfl)) rfl
              have e84 : a.tmps[84]? = some (.bool true) := by rw [ha]; exact putSel_on (e := (20, 84, .bool true)) 17 rfl rfl (hon 20 (by kernel_rfl)) rfl
              replace ha := Aside0.mk ha
              have HX := Aside0.mk Q_HX
              have HY2 := Aside0.mk Q_HY2
              have HI2 := Aside0.mk Q_HI2
              have HO2 := Aside0.mk Q_HO2
              have HKF := Aside0.mk Q_HKF
              have HB := Aside0.mk Q_HB
              refine value_ (w1 := w') (v := .int .i64 (nb : Int)) (wanted_on rfl rfl rfl (e84.trans (by first | rfl | (simp [*]; done)))) rfl ?_ ?_
              · go_simp
                (try simp only [i64_w])
                try rfl
              refine hK.out _ _ ⟨(by rw [ha.out]; exact putSel_upk 27 hb_ rfl rfl rfl), Q_HX, Q_HY2, Q_HI2, Q_HO2, Q_HKF, Q_HB⟩
            refine steps_cons ?_ ?_
            · rintro b a w' ⟨ha, Q_HX, Q_HY2, Q_HI2, Q_HO2, Q_HKF, Q_HB⟩ hb_ hon hoff
              refine ⟨_, rfl, fun K hK => ?_⟩
              have e90 : a.tmps[90]? = some (.string xb) := by rw [ha]; exact putSel_on (e := (26, 90, .string xb)) 23 rfl rfl (hon 26 (by kernel_rfl)) rfl
              have e94 : a.tmps[94]? = some (.int .i64 (nb : Int)) := by rw [ha]; exact putSel_on (e := (30, 94, .int .i64 (nb : Int))) 27 rfl rfl (hon 30 (by kernel_rfl)) rfl
              have e84 : a.tmps[84]? = some (.bool true) := by rw [ha]; exact putSel_on (e := (20, 84, .bool true)) 17 rfl rfl (hon 20 (by kernel_rfl)) rfl
              replace ha := Aside0.mk ha
              have HX := Aside0.mk Q_HX
              have HY2 := Aside0.mk Q_HY2
              have HI2 := Aside0.mk Q_HI2
              have HO2 := Aside0.mk Q_HO2
              have HKF := Aside0.mk Q_HKF
              have HB := Aside0.mk Q_HB
              refine value_ (w1 := w') (v := .string (xb.extract 0 nb)) (wanted_on rfl rfl rfl (e84.trans (by first | rfl | (simp [*]; done)))) rfl ?_ ?_
              · go_simp
                (try simp only [i64_w])
                try rfl
              refine hK.out _ _ ⟨(by rw [ha.out]; exact putSel_upk 28 hb_ rfl rfl rfl), Q_HX, Q_HY2, Q_HI2, Q_HO2, Q_HKF, Q_HB⟩
            refine steps_cons ?_ ?_
            · rintro b a w' ⟨ha, Q_HX, Q_HY2, Q_HI2, Q_HO2, Q_HKF, Q_HB⟩ hb_ hon hoff
              refine ⟨_, rfl, fun K hK => ?_⟩
              have e88 : a.tmps[88]? = some (.string (xb.extract 0 nb)) := by rw [ha]; exact putSel_on (e := (24, 88, .string (xb.extract 0 nb))) 21 rfl rfl (hon 24 (by kernel_rfl)) rfl
              have e95 : a.tmps[95]? = some (.string (xb.extract 0 nb)) := by rw [ha]; exact putSel_on (e := (31, 95, .string (xb.extract 0 nb))) 28 rfl rfl (hon 31 (by kernel_rfl)) rfl
              have e84 : a.tmps[84]? = some (.bool true) := by rw [ha]; exact putSel_on (e := (20, 84, .bool true)) 17 rfl rfl (hon 20 (by kernel_rfl)) rfl
              replace ha := Aside0.mk ha
              have HX := Aside0.mk Q_HX
              have HY2 := Aside0.mk Q_HY2
              have HI2 := Aside0.mk Q_HI2
              have HO2 := Aside0.mk Q_HO2
              have HKF := Aside0.mk Q_HKF
              have HB := Aside0.mk Q_HB
              refine value_ (w1 := w') (v := .bool true) (wanted_on rfl rfl rfl (e84.trans (by first | rfl | (simp [*]; done)))) rfl ?_ ?_
              · go_simp
                (try simp only [i64_w])
                try rfl
              refine hK.out _ _ ⟨(by rw [ha.out]; exact putSel_upk 29 hb_ rfl rfl rfl), Q_HX, Q_HY2, Q_HI2, Q_HO2, Q_HKF, Q_HB⟩
            refine steps_cons ?_ ?_
            · rintro b a w' ⟨ha, Q_HX, Q_HY2, Q_HI2, Q_HO2, Q_HKF, Q_HB⟩ hb_ hon hoff
              refine ⟨_, rfl, fun K hK => ?_⟩
              have e84 : a.tmps[84]? = some (.bool true) := by rw [ha]; exact putSel_on (e := (20, 84, .bool true)) 17 rfl rfl (hon 20 (by kernel_rfl)) rfl
              have e96 : a.tmps[96]? = some (.bool true) := by rw [ha]; exact putSel_on (e := (32, 96, .bool true)) 29 rfl rfl (hon 32 (by kernel_rfl)) rfl
              have e66 : a.tmps[66]? = some (.bool false) := by rw [ha]; exact (putSel_off rfl).trans rfl
              replace ha := Aside0.mk ha
              have HX := Aside0.mk Q_HX
              have HY2 := Aside0.mk Q_HY2
              have HI2 := Aside0.mk Q_HI2
              have HO2 := Aside0.mk Q_HO2
              have HKF := Aside0.mk Q_HKF
              have HB := Aside0.mk Q_HB
              refine value_ (w1 := w') (v := .bool true) (wanted_on rfl rfl rfl (e66.trans (by first | rfl | (simp [*]; done)))) rfl ?_ ?_
              · go_simp
                (try simp only [i64_w])
                try rfl
              refine hK.out _ _ ⟨(by rw [ha.out]; exact putSel_upk 30 hb_ rfl rfl rfl), Q_HX, Q_HY2, Q_HI2, Q_HO2, Q_HKF, Q_HB⟩
            refine steps_cons ?_ ?_
            · rintro b a w' ⟨ha, Q_HX, Q_HY2, Q_HI2, Q_HO2, Q_HKF, Q_HB⟩ hb_ hon hoff
              refine ⟨_, rfl, fun K hK => ?_⟩
              have e97 : a.tmps[97]? = some (.bool true) := by rw [ha]; exact putSel_on (e := (33, 97, .bool true)) 30 rfl rfl (hon 33 (by kernel_rfl)) rfl
              have e66 : a.tmps[66]? = some (.bool false) := by rw [ha]; exact (putSel_off rfl).trans rfl
              replace ha := Aside0.mk ha
              have HX := Aside0.mk Q_HX
              have HY2 := Aside0.mk Q_HY2
              have HI2 := Aside0.mk Q_HI2
              have HO2 := Aside0.mk Q_HO2
              have HKF := Aside0.mk Q_HKF
              have HB := Aside0.mk Q_HB
              refine value_ (w1 := w') (v := .bool true) (wanted_on rfl rfl rfl (e66.trans (by first | rfl | (simp [*]; done)))) rfl ?_ ?_
              · go_simp
                (try simp only [i64_w])
                try rfl
              refine hK.out _ _ ⟨(by rw [ha.out]; exact putSel_upk 31 hb_ rfl rfl rfl), Q_HX, Q_HY2, Q_HI2, Q_HO2, Q_HKF, Q_HB⟩
            refine steps_cons ?_ ?_
            · rintro b a w' ⟨ha, Q_HX, Q_HY2, Q_HI2, Q_HO2, Q_HKF, Q_HB⟩ hb_ hon hoff
              refine ⟨_, rfl, fun K hK => ?_⟩
              have e7 : a.tmps[7]? = some (.pointer (some ⟨g7, 0, none⟩)) := by rw [ha]; exact (putSel_off rfl).trans rfl
              have e98 : a.tmps[98]? = some (.bool true) := by rw [ha]; exact putSel_on (e := (34, 98, .bool true)) 31 rfl rfl (hon 34 (by kernel_rfl)) rfl
              replace ha := Aside0.mk ha
              have HX := Aside0.mk Q_HX
              have HY2 := Aside0.mk Q_HY2
              have HI2 := Aside0.mk Q_HI2
              have HO2 := Aside0.mk Q_HO2
              have HKF := Aside0.mk Q_HKF
              have HB := Aside0.mk Q_HB
              have hx_ := (blk_cell HX.out 0).trans rfl
              refine value_ (w1 := w') (v := .pointer (some ⟨kf, 0, none⟩)) (wanted_on rfl rfl rfl (e98.trans (by first | rfl | (simp [*]; done)))) rfl ?_ ?_
              · go_simp
                (try simp only [i64_w])
                try rfl
              refine hK.out _ _ ⟨(by rw [ha.out]; exact putSel_upk 32 hb_ rfl rfl rfl), Q_HX, Q_HY2, Q_HI2, Q_HO2, Q_HKF, Q_HB⟩
            refine steps_cons ?_ ?_
            · rintro b a w' ⟨ha, Q_HX, Q_HY2, Q_HI2, Q_HO2, Q_HKF, Q_HB⟩ hb_ hon hoff
              refine ⟨_, rfl, fun K hK => ?_⟩
              have e99 : a.tmps[99]? = some (.pointer (some ⟨kf, 0, none⟩)) := by rw [ha]; exact putSel_on (e := (35, 99, .pointer (some ⟨kf, 0, none⟩))) 32 rfl rfl (hon 35 (by kernel_rfl)) rfl
              have e98 : a.tmps[98]? = some (.bool true) := by rw [ha]; exact putSel_on (e := (34, 98, .bool true)) 31 rfl rfl (hon 34 (by kernel_rfl)) rfl
              replace ha := Aside0.mk ha
              have HX := Aside0.mk Q_HX
              have HY2 := Aside0.mk Q_HY2
              have HI2 := Aside0.mk Q_HI2
              have HO2 := Aside0.mk Q_HO2
              have HKF := Aside0.mk Q_HKF
              have HB := Aside0.mk Q_HB
              refine value_ (w1 := w') (v := .pointer (some ⟨kf, 0, none⟩)) (wanted_on rfl rfl rfl (e98.trans (by first | rfl | (simp [*]; done)))) rfl ?_ ?_
              · go_simp
                (try simp only [i64_w])
                try rfl
              refine hK.out _ _ ⟨(by rw [ha.out]; exact putSel_upk 33 hb_ rfl rfl rfl), Q_HX, Q_HY2, Q_HI2, Q_HO2, Q_HKF, Q_HB⟩
            refine steps_cons ?_ ?_
            · rintro b a w' ⟨ha, Q_HX, Q_HY2, Q_HI2, Q_HO2, Q_HKF, Q_HB⟩ hb_ hon hoff
              refine ⟨_, rfl, fun K hK => ?_⟩
              have e100 : a.tmps[100]? = some (.pointer (some ⟨kf, 0, none⟩)) := by rw [ha]; exact putSel_on (e := (36, 100, .pointer (some ⟨kf, 0, none⟩))) 33 rfl rfl (hon 36 (by kernel_rfl)) rfl
              have e98 : a.tmps[98]? = some (.bool true) := by rw [ha]; exact putSel_on (e := (34, 98, .bool true)) 31 rfl rfl (hon 34 (by kernel_rfl)) rfl
              replace ha := Aside0.mk ha
              have HX := Aside0.mk Q_HX
              have HY2 := Aside0.mk Q_HY2
              have HI2 := Aside0.mk Q_HI2
              have HO2 := Aside0.mk Q_HO2
              have HKF := Aside0.mk Q_HKF
              have HB := Aside0.mk Q_HB
              refine value_ (w1 := w') (v := .pointer (some ⟨kf, 1, none⟩)) (wanted_on rfl rfl rfl (e98.trans (by first | rfl | (simp [*]; done)))) rfl ?_ ?_
              · go_simp
                (try simp only [i64_w])
                try rfl
              refine hK.out _ _ ⟨(by rw [ha.out]; exact putSel_upk 34 hb_ rfl rfl rfl), Q_HX, Q_HY2, Q_HI2, Q_HO2, Q_HKF, Q_HB⟩
            refine steps_cons ?_ ?_
            · rintro b a w' ⟨ha, Q_HX, Q_HY2, Q_HI2, Q_HO2, Q_HKF, Q_HB⟩ hb_ hon hoff
              refine ⟨_, rfl, fun K hK => ?_⟩
              have e101 : a.tmps[101]? = some (.pointer (some ⟨kf, 1, none⟩)) := by rw [ha]; exact putSel_on (e := (37, 101, .pointer (some ⟨kf, 1, none⟩))) 34 rfl rfl (hon 37 (by kernel_rfl)) rfl
              have e98 : a.tmps[98]? = some (.bool true) := by rw [ha]; exact putSel_on (e := (34, 98, .bool true)) 31 rfl rfl (hon 34 (by kernel_rfl)) rfl
              replace ha := Aside0.mk ha
              have HX := Aside0.mk Q_HX
              have HY2 := Aside0.mk Q_HY2
              have HI2 := Aside0.mk Q_HI2
              have HO2 := Aside0.mk Q_HO2
              have HKF := Aside0.mk Q_HKF
              have HB := Aside0.mk Q_HB
              have hx_ := (blk_cell HKF.out 1).trans rfl
              refine value_ (w1 := w') (v := .int .i64 pb) (wanted_on rfl rfl rfl (e98.trans (by first | rfl | (simp [*]; done)))) rfl ?_ ?_
              · go_simp
                (try simp only [i64_w])
                try rfl
              refine hK.out _ _ ⟨(by rw [ha.out]; exact putSel_upk 35 hb_ rfl rfl rfl), Q_HX, Q_HY2, Q_HI2, Q_HO2, Q_HKF, Q_HB⟩
            refine steps_cons ?_ ?_
            · rintro b a w' ⟨ha, Q_HX, Q_HY2, Q_HI2, Q_HO2, Q_HKF, Q_HB⟩ hb_ hon hoff
              refine ⟨_, rfl, fun K hK => ?_⟩
              have e12 : a.tmps[12]? = some (.pointer (some ⟨g12, 0, none⟩)) := by rw [ha]; exact (putSel_off rfl).trans rfl
              have e98 : a.tmps[98]? = some (.bool true) := by rw [ha]; exact putSel_on (e := (34, 98, .bool true)) 31 rfl rfl (hon 34 (by kernel_rfl)) rfl
              replace ha := Aside0.mk ha
              have HX := Aside0.mk Q_HX
              have HY2 := Aside0.mk Q_HY2
              have HI2 := Aside0.mk Q_HI2
              have HO2 := Aside0.mk Q_HO2
              have HKF := Aside0.mk Q_HKF
              have HB := Aside0.mk Q_HB
              refine value_ (w1 := w') (v := .pointer (some ⟨g12, 1, none⟩)) (wanted_on rfl rfl rfl (e98.trans (by first | rfl | (simp [*]; done)))) rfl ?_ ?_
              · go_simp
                (try simp only [i64_w])
                try rfl
              refine hK.out _ _ ⟨(by rw [ha.out]; exact putSel_upk 36 hb_ rfl rfl rfl), Q_HX, Q_HY2, Q_HI2, Q_HO2, Q_HKF, Q_HB⟩
            refine steps_cons ?_ ?_
            · rintro b a w' ⟨ha, Q_HX, Q_HY2, Q_HI2, Q_HO2, Q_HKF, Q_HB⟩ hb_ hon hoff
              refine ⟨_, rfl, fun K hK => ?_⟩
              have e103 : a.tmps[103]? = some (.pointer (some ⟨g12, 1, none⟩)) := by rw [ha]; exact putSel_on (e := (39, 103, .pointer (some ⟨g12, 1, none⟩))) 36 rfl rfl (hon 39 (by kernel_rfl)) rfl
              have e98 : a.tmps[98]? = some (.bool true) := by rw [ha]; exact putSel_on (e := (34, 98, .bool true)) 31 rfl rfl (hon 34 (by kernel_rfl)) rfl
              replace ha := Aside0.mk ha
              have HX := Aside0.mk Q_HX
              have HY2 := Aside0.mk Q_HY2
              have HI2 := Aside0.mk Q_HI2
              have HO2 := Aside0.mk Q_HO2
              have HKF := Aside0.mk Q_HKF
              have HB := Aside0.mk Q_HB
              have hx_ := (blk_cell HO2.out 1).trans rfl
              refine value_ (w1 := w') (v := .int .i64 pb) (wanted_on rfl rfl rfl (e98.trans (by first | rfl | (simp [*]; done)))) rfl ?_ ?_
              · go_simp
                (try simp only [i64_w])
                try rfl
              refine hK.out _ _ ⟨(by rw [ha.out]; exact putSel_upk 37 hb_ rfl rfl rfl), Q_HX, Q_HY2, Q_HI2, Q_HO2, Q_HKF, Q_HB⟩
            refine steps_cons ?_ ?_
            · rintro b a w' ⟨ha, Q_HX, Q_HY2, Q_HI2, Q_HO2, Q_HKF, Q_HB⟩ hb_ hon hoff
              refine ⟨_, rfl, fun K hK => ?_⟩
              have e102 : a.tmps[102]? = some (.int .i64 pb) := by rw [ha]; exact putSel_on (e := (38, 102, .int .i64 pb)) 35 rfl rfl (hon 38 (by kernel_rfl)) rfl
              have e104 : a.tmps[104]? = some (.int .i64 pb) := by rw [ha]; exact putSel_on (e := (40, 104, .int .i64 pb)) 37 rfl rfl (hon 40 (by kernel_rfl)) rfl
              have e98 : a.tmps[98]? = some (.bool true) := by rw [ha]; exact putSel_on (e := (34, 98, .bool true)) 31 rfl rfl (hon 34 (by kernel_rfl)) rfl
              replace ha := Aside0.mk ha
              have HX := Aside0.mk Q_HX
              have HY2 := Aside0.mk Q_HY2
              have HI2 := Aside0.mk Q_HI2
              have HO2 := Aside0.mk Q_HO2
              have HKF := Aside0.mk Q_HKF
              have HB := Aside0.mk Q_HB
              refine value_ (w1 := w') (v := .bool true) (wanted_on rfl rfl rfl (e98.trans (by first | rfl | (simp [*]; done)))) rfl ?_ ?_
              · go_simp
                (try simp only [i64_w])
                try rfl
              refine hK.out _ _ ⟨(by rw [ha.out]; exact putSel_upk 38 hb_ rfl rfl rfl), Q_HX, Q_HY2, Q_HI2, Q_HO2, Q_HKF, Q_HB⟩
            refine steps_cons ?_ ?_
            · rintro b a w' ⟨ha, Q_HX, Q_HY2, Q_HI2, Q_HO2, Q_HKF, Q_HB⟩ hb_ hon hoff
              refine ⟨_, rfl, fun K hK => ?_⟩
              have e98 : a.tmps[98]? = some (.bool true) := by rw [ha]; exact putSel_on (e := (34, 98, .bool true)) 31 rfl rfl (hon 34 (by kernel_rfl)) rfl
              have e105 : a.tmps[105]? = some (.bool true) := by rw [ha]; exact putSel_on (e := (41, 105, .bool true)) 38 rfl rfl (hon 41 (by kernel_rfl)) rfl
              have e66 : a.tmps[66]? = some (.bool false) := by rw [ha]; exact (putSel_off rfl).trans rfl
              replace ha := Aside0.mk ha
              have HX := Aside0.mk Q_HX
              have HY2 := Aside0.mk Q_HY2
              have HI2 := Aside0.mk Q_HI2
              have HO2 := Aside0.mk Q_HO2
              have HKF := Aside0.mk Q_HKF
              have HB := Aside0.mk Q_HB
              refine value_ (w1 := w') (v := .bool true) (wanted_on rfl rfl rfl (e66.trans (by first | rfl | (simp [*]; done)))) rfl ?_ ?_
              · go_simp
                (try simp only [i64_w])
                try rfl
              refine hK.out _ _ ⟨(by rw [ha.out]; exact putSel_upk 39 hb_ rfl rfl rfl), Q_HX, Q_HY2, Q_HI2, Q_HO2, Q_HKF, Q_HB⟩
            refine steps_cons ?_ ?_
            · rintro b a w' ⟨ha, Q_HX, Q_HY2, Q_HI2, Q_HO2, Q_HKF, Q_HB⟩ hb_ hon hoff
              refine ⟨_, rfl, fun K hK => ?_⟩
              have e66 : a.tmps[66]? = some (.bool false) := by rw [ha]; exact (putSel_off rfl).trans rfl
              have e106 : a.tmps[106]? = some (.bool true) := by rw [ha]; exact putSel_on (e := (42, 106, .bool true)) 39 rfl rfl (hon 42 (by kernel_rfl)) rfl
              replace ha := Aside0.mk ha
              have HX := Aside0.mk Q_HX
              have HY2 := Aside0.mk Q_HY2
              have HI2 := Aside0.mk Q_HI2
              have HO2 := Aside0.mk Q_HO2
              have HKF := Aside0.mk Q_HKF
              have HB := Aside0.mk Q_HB
              refine value_ (w1 := w') (v := .bool true) (by rfl) rfl ?_ ?_
              · go_simp
                (try simp only [i64_w])
                try rfl
              refine hK.out _ _ ⟨(by rw [ha.out]; exact putSel_upk 40 hb_ rfl rfl rfl), Q_HX, Q_HY2, Q_HI2, Q_HO2, Q_HKF, Q_HB⟩
            refine steps_cons ?_ ?_
            · rintro b a w' ⟨ha, Q_HX, Q_HY2, Q_HI2, Q_HO2, Q_HKF, Q_HB⟩ hb_ hon hoff
              refine ⟨_, rfl, fun K hK => ?_⟩
              have e107 : a.tmps[107]? = some (.bool true) := by rw [ha]; exact putSel_on (e := (43, 107, .bool true)) 40 rfl rfl (hon 43 (by kernel_rfl)) rfl
              replace ha := Aside0.mk ha
              have HX := Aside0.mk Q_HX
              have HY2 := Aside0.mk Q_HY2
              have HI2 := Aside0.mk Q_HI2
              have HO2 := Aside0.mk Q_HO2
              have HKF := Aside0.mk Q_HKF
              have HB := Aside0.mk Q_HB
              refine value_ (w1 := w') (v := .bool true) (by rfl) rfl ?_ ?_
              · go_simp
                (try simp only [i64_w])
                try rfl
              refine hK.out _ _ ⟨(by rw [ha.out]; exact putSel_upk 41 hb_ rfl rfl rfl), Q_HX, Q_HY2, Q_HI2, Q_HO2, Q_HKF, Q_HB⟩
            exact steps_nil
          rintro b a w9 hall ⟨ha, Q_HX, Q_HY2, Q_HI2, Q_HO2, Q_HKF, Q_HB⟩
          clear HB HI2 HKF HO2 HX HY2
          have hb3_ := hall 3 (by kernel_rfl)
          have hb4_ := hall 4 (by kernel_rfl)
          have hb5_ := hall 5 (by kernel_rfl)
          have hb6_ := hall 6 (by kernel_rfl)
          have hb7_ := hall 7 (by kernel_rfl)
          have hb8_ := hall 8 (by kernel_rfl)
          have hb9_ := hall 9 (by kernel_rfl)
          have hb10_ := hall 10 (by kernel_rfl)
          have hb11_ := hall 11 (by kernel_rfl)
          have hb12_ := hall 12 (by kernel_rfl)
          have hb13_ := hall 13 (by kernel_rfl)
          have hb14_ := hall 14 (by kernel_rfl)
          have hb15_ := hall 15 (by kernel_rfl)
          have hb16_ := hall 16 (by kernel_rfl)
          have hb17_ := hall 17 (by kernel_rfl)
          have hb18_ := hall 18 (by kernel_rfl)
          have hb19_ := hall 19 (by kernel_rfl)
          have hb20_ := hall 20 (by kernel_rfl)
          have hb21_ := hall 21 (by kernel_rfl)
          have hb22_ := hall 22 (by kernel_rfl)
          have hb23_ := hall 23 (by kernel_rfl)
          have hb24_ := hall 24 (by kernel_rfl)
          have hb25_ := hall 25 (by kernel_rfl)
          have hb26_ := hall 26 (by kernel_rfl)
          have hb27_ := hall 27 (by kernel_rfl)
          have hb28_ := hall 28 (by kernel_rfl)
          have hb29_ := hall 29 (by kernel_rfl)
          have hb30_ := hall 30 (by kernel_rfl)
          have hb31_ := hall 31 (by kernel_rfl)
          have hb32_ := hall 32 (by kernel_rfl)
          have hb33_ := hall 33 (by kernel_rfl)
          have hb34_ := hall 34 (by kernel_rfl)
          have hb35_ := hall 35 (by kernel_rfl)
          have hb36_ := hall 36 (by kernel_rfl)
          have hb37_ := hall 37 (by kernel_rfl)
          have hb38_ := hall 38 (by kernel_rfl)
          have hb39_ := hall 39 (by kernel_rfl)
          have hb40_ := hall 40 (by kernel_rfl)
          have hb41_ := hall 41 (by kernel_rfl)
          have hb42_ := hall 42 (by kernel_rfl)
          have hb43_ := hall 43 (by kernel_rfl)
          have hb44_ := hall 44 (by kernel_rfl)
          subst ha
          simp only [putSel, hb3_, hb4_, hb5_, hb6_, hb7_, hb8_, hb9_, hb10_, hb11_, hb12_, hb13_, hb14_, hb15_, hb16_, hb17_, hb18_, hb19_, hb20_, hb21_, hb22_, hb23_, hb24_, hb25_, hb26_, hb27_, hb28_, hb29_, hb30_, hb31_, hb32_, hb33_, hb34_, hb35_, hb36_, hb37_, hb38_, hb39_, hb40_, hb41_, hb42_, hb43_, hb44_, if_true, Act.put, List.setIfInBounds_toArray, List.set_cons_zero, List.set_cons_succ]
          have HX := Aside0.mk Q_HX
          clear Q_HX
          have HY2 := Aside0.mk Q_HY2
          clear Q_HY2
          have HI2 := Aside0.mk Q_HI2
          clear Q_HI2
          have HO2 := Aside0.mk Q_HO2
          clear Q_HO2
          have HKF := Aside0.mk Q_HKF
          clear Q_HKF
          have HB := Aside0.mk Q_HB
          clear Q_HB
          clear hall hb3_ hb4_ hb5_ hb6_ hb7_ hb8_ hb9_ hb10_ hb11_ hb12_ hb13_ hb14_ hb15_ hb16_ hb17_ hb18_ hb19_ hb20_ hb21_ hb22_ hb23_ hb24_ hb25_ hb26_ hb27_ hb28_ hb29_ hb30_ hb31_ hb32_ hb33_ hb34_ hb35_ hb36_ hb37_ hb38_ hb39_ hb40_ hb41_ hb42_ hb43_ hb44_
          go_wp2
          go_ret
          exact ⟨by first | rfl | simp, HB.out⟩


end Go.Proofs.YtegcaniikdibdaaDoor.VFaultFinds
