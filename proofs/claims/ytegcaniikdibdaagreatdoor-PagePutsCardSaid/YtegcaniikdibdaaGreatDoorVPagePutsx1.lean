/- Contracts of functions of this seat: each call comes to what its Lean function computes; no condition beyond what each theorem states. Printed by a program of this session's own laid over the kit's printer. -/
import Derived.Lib.Strings
import Derived.Lib.Slices
import Derived.Lib.Walk
import Derived.Lib.Builder
import Derived.Lib.AppendStr
import Derived.Lib.UnsafeStr
import Derived.Laws.Externs
import Derived.RegionTactic
import Derived.Lib.Hide
import Derived.Test.YtegcaniikdibdaaGreatDoorVPagePutsx0
import Derived.Shelf.Strings.Repeat
import Derived.Deep.RegionHeld3
import Derived.Laws.Bits
namespace Go.Proofs.YtegcaniikdibdaaGreatDoor.VPagePuts
open Go.RowKit Go.Proofs.YtegcaniikdibdaaGreatDoorW.PrintWords Go.Proofs.YtegcaniikdibdaaGreatDoorW.PrintLast Go.Proofs.YtegcaniikdibdaaGreatDoorW.PrintMore
attribute [local go_sem] max2_int min2_int max_two min_two max_three min_three max_four min_four   -- for this text's walks alone
set_option linter.unusedSimpArgs false
set_option linter.unusedVariables false
-- @GIVEN lib_builder
/-- A strings.Builder at the head of block g (a block of type T: the builder alone, or a struct that begins with it), all in blocks from B on, holding the bytes bs; p: its own address, or nil while it is fresh. -/
def BIn (T : TypeId) (rest : List Value) (B g : Nat) (p : Value) (bs : List Value) (w : World) : Prop :=
  B ≤ g ∧ ∃ v, w.heap[g]? = some (.cells (p :: v :: rest).toArray T (0, 0)) ∧ w.ownsRow B 5 1 v bs.length bs ∧ v.ownBlock ≠ some g ∧ (bs = [] → v = .slice none 0 0)
/-- .. fresh or used. -/
def BOut (T : TypeId) (rest : List Value) (B g : Nat) (bs : List Value) (w : World) : Prop :=
  BIn T rest B g (.pointer none) bs w ∨ BIn T rest B g (.pointer (some ⟨g, 0, none⟩)) bs w

theorem bsize : (Tryz.prog.info? 52).map (·.size) = some 2 := by kernel_rfl
theorem binfo : (Tryz.prog.info? 5).map (fun i => (i.zero, i.size, i.bytes)) = some (some (.int .u8 0), 1, 1) := by kernel_rfl
theorem bcells : Tryz.prog.cellsOf 5 = 1 := by kernel_rfl

theorem bcells_append (a b : ByteArray) : Lib.strCells (a ++ b) = Lib.strCells a ++ Lib.strCells b := by
  simp [Lib.strCells_eq, Lib.byteCells]

/-- The block's type lets a builder be seen at its head. -/
def BLies (T : TypeId) (rest : List Value) : Prop := liesAt Tryz.prog Tryz.prog.depth T ((rest.length + 2) / Tryz.prog.cellsOf T) 0 52 1 = true

section
variable {T : TypeId} {rest : List Value} {B g : Nat} {p : Value} {bs : List Value} {w : World}
theorem BIn.cell0 (h : BIn T rest B g p bs w) : w.cell? ⟨g, 0, none⟩ = some p := by
  obtain ⟨_, v, hb, _⟩ := h; rw [Lib.cell_of_heap hb]; rfl
theorem BIn.shape (h : BIn T rest B g p bs w) : w.shape? g = some (T, rest.length + 2) := by
  obtain ⟨_, v, hb, _⟩ := h; simp [World.shape?, hb]
theorem BIn.lt (h : BIn T rest B g p bs w) : g < w.heap.size := by
  obtain ⟨_, v, hb, _⟩ := h; exact blk_lt hb
theorem BIn.frozen0 (h : BIn T rest B g p bs w) : w.frozen? ⟨g, 0, none⟩ = false := by
  obtain ⟨_, v, hb, _⟩ := h; simp [World.frozen?, hb]
theorem BIn.ge (h : BIn T rest B g p bs w) : B ≤ g := h.1
theorem BIn.used (h : BIn T rest B g p bs w) (q : Value) : BIn T rest B g q bs (w.setCell ⟨g, 0, none⟩ q) := by
  obtain ⟨hB, v, hb, hown, hne, hn⟩ := h; refine ⟨hB, v, ?_, ?_, hne, hn⟩
  · simp [World.setCell, Array.getElem?_modify, hb]
  · refine hown.kept (row := some g) ⟨rfl, rfl, rfl, by simp [World.setCell], fun k _ hk => Below.heap_setCell _ _ _ _ (fun e => hk (by simp [e]))⟩ ?_; exact Or.inr hne
theorem bown_ne {v : Value} {n : Nat} {xs : List Value} {cs : Array Value} {fr : Nat × Nat} (hown : w.ownsRow B 5 1 v n xs) (hb : w.heap[g]? = some (.cells cs T fr)) (hT : T ≠ 5) : v.ownBlock ≠ some g := Lib.ownBlock_ne hown hb hT
theorem BIn.put {v v' : Value} {bs' : List Value} (hB : B ≤ g) (hb : w.heap[g]? = some (.cells (p :: v :: rest).toArray T (0, 0))) (hown : w.ownsRow B 5 1 v' bs'.length bs') (hT : T ≠ 5) (hn : bs' = [] → v' = .slice none 0 0) :
    BIn T rest B g p bs' (w.setCell ⟨g, 1, none⟩ v') := by
  have hne := bown_ne hown hb hT; refine ⟨hB, v', ?_, ?_, hne, hn⟩
  · simp [World.setCell, Array.getElem?_modify, hb]
  · exact hown.kept (row := some g) ⟨rfl, rfl, rfl, by simp [World.setCell], fun k _ hk => Below.heap_setCell _ _ _ _ (fun e => hk (by simp [e]))⟩ (Or.inr hne)
/-- A cell behind the builder is written. -/
theorem BIn.rest_set {u z : Value} (h : BIn T [u] B g p bs w) : BIn T [z] B g p bs (w.setCell ⟨g, 2, none⟩ z) := by
  obtain ⟨hB, v, hb, hown, hne, hn⟩ := h; refine ⟨hB, v, ?_, ?_, hne, hn⟩
  · simp [World.setCell, Array.getElem?_modify, hb]
  · exact hown.kept (row := some g) ⟨rfl, rfl, rfl, by simp [World.setCell], fun k _ hk => Below.heap_setCell _ _ _ _ (fun e => hk (by simp [e]))⟩ (Or.inr hne)
theorem BIn.below {w' : World} (h : BIn T rest B g p bs w) (hb : Below w.heap.size w w') : BIn T rest B g p bs w' := by
  obtain ⟨hB, v, hk, hown, hne, hn⟩ := h; refine ⟨hB, v, blk_below hk hb, ?_, hne, hn⟩; rcases hown with ⟨h0, ⟨hv, hz⟩ | ⟨k, cap, cur, hv, hBk, hkk, r⟩⟩
  · exact ⟨h0, .inl ⟨hv, hz⟩⟩
  · exact ⟨h0, .inr ⟨k, cap, cur, hv, hBk, blk_below hkk hb, r⟩⟩
theorem BOut.below {w' : World} (h : BOut T rest B g bs w) (hb : Below w.heap.size w w') : BOut T rest B g bs w' := by
  rcases h with h | h
  · exact .inl (h.below hb)
  · exact .inr (h.below hb)
theorem BIn.alloc (h : BIn T rest B g p bs w) (o : Obj) : BIn T rest B g p bs (w.alloc o) := h.below (below_alloc (Below.refl _ _) o)
theorem BIn.drew (h : BIn T rest B g p bs w) : BIn T rest B g p bs w.drew := h
theorem BIn.drewN (h : BIn T rest B g p bs w) (n : Nat) : BIn T rest B g p bs (w.drewN n) := h
/-- A store into a block that is neither the builder's nor a row of bytes. -/
theorem BIn.far (h : BIn T rest B g p bs w) {k : Nat} {cs : Array Value} {t : TypeId} (hk : w.heap[k]? = some (.cells cs t (0, 0))) (ht : t ≠ 5) (hg : k ≠ g) (j : Nat) (u : Value) : BIn T rest B g p bs (w.setCell ⟨k, j, none⟩ u) := by
  obtain ⟨hB, v, hb, hown, hne, hn⟩ := h; refine ⟨hB, v, (Below.heap_setCell _ _ _ _ (fun e => hg e.symm)).trans hb, ?_, hne, hn⟩; rcases hown with ⟨h0, ⟨hv, hz⟩ | ⟨m, cap, cur, hv, hBk, hkk, r⟩⟩
  · exact ⟨h0, .inl ⟨hv, hz⟩⟩
  · refine ⟨h0, .inr ⟨m, cap, cur, hv, hBk, (Below.heap_setCell _ _ _ _ (fun e => ?_)).trans hkk, r⟩⟩; simp only at e; subst e; rw [hkk] at hk; injection hk with hk
    injection hk with _ hk
    exact ht hk.symm
theorem BOut.alloc (h : BOut T rest B g bs w) (o : Obj) : BOut T rest B g bs (w.alloc o) := by
  rcases h with h | h
  · exact .inl (h.alloc o)
  · exact .inr (h.alloc o)
theorem BOut.drew (h : BOut T rest B g bs w) : BOut T rest B g bs w.drew := h
theorem BOut.drewN (h : BOut T rest B g bs w) (n : Nat) : BOut T rest B g bs (w.drewN n) := h
theorem BOut.far (h : BOut T rest B g bs w) {k : Nat} {cs : Array Value} {t : TypeId} (hk : w.heap[k]? = some (.cells cs t (0, 0))) (ht : t ≠ 5) (hg : k ≠ g) (j : Nat) (u : Value) : BOut T rest B g bs (w.setCell ⟨k, j, none⟩ u) := by
  rcases h with h | h
  · exact .inl (h.far hk ht hg j u)
  · exact .inr (h.far hk ht hg j u)
theorem BOut.lt (h : BOut T rest B g bs w) : g < w.heap.size := by rcases h with h | h <;> exact h.lt
theorem BOut.ge (h : BOut T rest B g bs w) : B ≤ g := by rcases h with h | h <;> exact h.1
theorem BOut.rest_set {u z : Value} (h : BOut T [u] B g bs w) : BOut T [z] B g bs (w.setCell ⟨g, 2, none⟩ z) := by
  rcases h with h | h
  · exact .inl h.rest_set
  · exact .inr h.rest_set
end

/-- All blocks but the builder's own and the rows of bytes stand as they stood. -/
def BKeep (g : Nat) (w w' : World) : Prop := ∀ (k : Nat) (cs : Array Value) (t : TypeId), k ≠ g → t ≠ 5 → w.heap[k]? = some (.cells cs t (0, 0)) → w'.heap[k]? = some (.cells cs t (0, 0))
theorem BKeep.refl (g : Nat) (w : World) : BKeep g w w := fun _ _ _ _ _ h => h
theorem BKeep.trans {g : Nat} {w w1 w2 : World} (h : BKeep g w w1) (k : BKeep g w1 w2) : BKeep g w w2 := fun a cs t h1 h2 h3 => k a cs t h1 h2 (h a cs t h1 h2 h3)
theorem BKeep.set {g : Nat} {w w1 : World} (h : BKeep g w w1) (j : Nat) (u : Value) : BKeep g w (w1.setCell ⟨g, j, none⟩ u) := fun a cs t h1 h2 h3 => (Below.heap_setCell _ _ _ _ (fun e => h1 e)).trans (h a cs t h1 h2 h3)
theorem BKeep.grown {g B : Nat} {w w1 w2 : World} {v : Value} {n : Nat} {xs : List Value} (h : BKeep g w w1) (hown : w1.ownsRow B 5 1 v n xs) (hg : w1.grownBy w2 v.ownBlock) : BKeep g w w2 := fun a cs t h1 h2 h3 => by
  have h4 := h a cs t h1 h2 h3; exact (hg.block a (blk_lt h4) (fun e => bown_ne hown h4 h2 e.symm)).trans h4
set_option maxHeartbeats 1000000 in
set_option maxRecDepth 100000 in
theorem bCheck_used (g : Nat) (w : World) (h0 : w.cell? ⟨g, 0, none⟩ = some (.pointer (some ⟨g, 0, none⟩))) :
    Calls Tryz.prog 57 #[.pointer (some ⟨g, 0, none⟩)] w fun e w' => e = .returned (.tuple #[]) ∧ w' = w := by
  obtain ⟨j, hj, _⟩ := Option.map_eq_some_iff.1 bsize; go_enter Tryz.func57, Tryz.ntmps57
  go_wp2
  rw [Lib.run_neq_ptr_same w _ Tryz.underlying49 hj]; go_wp2
  go_end0
  exact ⟨rfl, rfl⟩

set_option maxHeartbeats 1000000 in
set_option maxRecDepth 100000 in
theorem bCheck_fresh (T : TypeId) (rest : List Value) (hl : BLies T rest) (g : Nat) (w : World) (h0 : w.cell? ⟨g, 0, none⟩ = some (.pointer none)) (hsh : w.shape? g = some (T, rest.length + 2)) (hfz : w.frozen? ⟨g, 0, none⟩ = false) :
    Calls Tryz.prog 57 #[.pointer (some ⟨g, 0, none⟩)] w fun e w' => e = .returned (.tuple #[]) ∧ w' = w.setCell ⟨g, 0, none⟩ (.pointer (some ⟨g, 0, none⟩)) := by
  obtain ⟨j, hj, hjs⟩ := Option.map_eq_some_iff.1 bsize; have HL := Lib.hid hl; clear hl; go_enter Tryz.func57, Tryz.ntmps57
  go_wp2
  rw [Lib.run_to_unsafe w ⟨g, 0, none⟩ Tryz.underlying49 Tryz.underlying103 hj (by rw [hjs]; decide) hsh (by simp)]; simp only [Result.andThen]; rw [Oper.upon_value]; go_wp2
  rw [run_callFunc_extern Tryz.func76 (by kernel_rfl) (by kernel_rfl) (by kernel_rfl) (e := Extern.AbiNoEscape.same) (by kernel_rfl)]; rw [Lib.run_noEscape]; simp only [Result.andThen]; rw [Oper.upon_value]; go_wp2
  rw [Lib.run_from_unsafe w ⟨g, 0, none⟩ Tryz.underlying103 Tryz.underlying49 hj hsh HL.out]; simp only [Result.andThen]; rw [Oper.upon_value]; go_wp2
  go_end0
  exact ⟨rfl, rfl⟩

theorem bCheck (T : TypeId) (rest : List Value) (hl : BLies T rest) (B g : Nat) (bs : List Value) (w : World) (h : BOut T rest B g bs w) :
    Calls Tryz.prog 57 #[.pointer (some ⟨g, 0, none⟩)] w fun e w' => e = .returned (.tuple #[]) ∧ BIn T rest B g (.pointer (some ⟨g, 0, none⟩)) bs w' ∧ Below B w w' ∧ BKeep g w w' := by
  rcases h with h | h
  · refine (bCheck_fresh T rest hl g w h.cell0 h.shape h.frozen0).mono ?_; rintro e w' ⟨rfl, rfl⟩; exact ⟨rfl, h.used _, (Below.refl B w).setCell (p := ⟨g, 0, none⟩) h.1 _, (BKeep.refl g w).set 0 _⟩
  · refine (bCheck_used g w h.cell0).mono ?_; rintro e w' ⟨rfl, rfl⟩; exact ⟨rfl, h, Below.refl B _, BKeep.refl g _⟩

set_option maxHeartbeats 2000000 in
set_option maxRecDepth 100000 in
/-- WriteString: the bytes go behind those that are there. -/
theorem bWrite (T : TypeId) (rest : List Value) (hl : BLies T rest) (hT : T ≠ 5) (B g : Nat) (bs : List Value) (s : ByteArray) (w : World) (h : BOut T rest B g bs w) (hlen : bs.length + s.size ≤ 140737488355328) (hBw : B ≤ w.heap.size) :
    Calls Tryz.prog 40 #[.pointer (some ⟨g, 0, none⟩), .string s] w fun e w' => e = .returned (.tuple #[.int .i64 s.size, .nilIface]) ∧ BOut T rest B g (bs ++ Lib.strCells s) w' ∧ Below B w w' ∧ BKeep g w w' := by
  obtain ⟨i0, hi, hz0, hz1, hz2⟩ := info_parts binfo; have HT := Lib.hid hT; clear hT; go_enter Tryz.func40, Tryz.ntmps40
  go_wp2_with (go_at_call 57; refine (bCheck T rest hl B g bs _ h).mono ?_)
  rintro e w1 ⟨rfl, h1, hb1, hk1⟩; have HK := Lib.hid hk1; clear hk1; obtain ⟨hB, v, hbk, hown, hne, hnil⟩ := h1; have HN := Lib.hid hnil; clear hnil; have c0 : w1.cell? ⟨g, 0, none⟩ = some (.pointer (some ⟨g, 0, none⟩)) := by rw [Lib.cell_of_heap hbk]; rfl
  have c1 : w1.cell? ⟨g, 1, none⟩ = some v := by rw [Lib.cell_of_heap hbk]; rfl
  go_wp2_with (at_builtin; refine Lib.wpList_append_own_string _ rfl _ _ 50 9 rfl B 5 i0 Tryz.underlying50 Tryz.underlying9 hi hz0 hz1 hz2 _ _ _ rfl hown s rfl ?c3 ?c4 ?c5 ?_)
  case c3 => unfold maxLen; omega
  case c4 => omega
  case c5 => have := hb1.size; omega
  intro v' w2 hown' hgrow hnl; have HN2 := Lib.hid hnl; clear hnl; have hlt : g < w1.heap.size := blk_lt hbk; have hb2 : w2.heap[g]? = some (.cells (.pointer (some ⟨g, 0, none⟩) :: v :: rest).toArray T (0, 0)) := by
    rw [hgrow.block g hlt (fun e => hne e.symm)]; exact hbk
  have d0 : w2.cell? ⟨g, 0, none⟩ = some (.pointer (some ⟨g, 0, none⟩)) := by rw [Lib.cell_of_heap hb2]; rfl
  have d1 : w2.cell? ⟨g, 1, none⟩ = some v := by rw [Lib.cell_of_heap hb2]; rfl
  have f1 : w2.frozen? ⟨g, 1, none⟩ = false := Lib.frozen_of_heap hb2 1; obtain ⟨ao, n', cap, rfl⟩ : ∃ ao n' cap, v' = .slice ao n' cap := by
    rcases hown'.2 with ⟨hv, _⟩ | ⟨g, cap, cur, hv, _⟩
    · exact ⟨_, _, _, hv⟩
    · exact ⟨_, _, _, hv⟩
  have HX := Lib.hid hown'; clear hown'; have HK2 := Lib.hid ((HK.out).grown hown hgrow); go_wp2
  go_ret2
  refine ⟨rfl, .inr ?_, ?_, HK2.out.set 1 _⟩
  · refine BIn.put hB hb2 (bs' := bs ++ Lib.strCells s) (by simpa [Lib.strCells_length] using HX.out) HT.out ?_; intro hz; have hz2 : bs = [] ∧ Lib.strCells s = [] := List.append_eq_nil_iff.1 hz; refine (HN2.out).2 ⟨HN.out hz2.1, ?_⟩; have hl := Lib.strCells_length s; rw [hz2.2] at hl; cases s with
    | mk d => cases d with
      | mk l => cases l with
        | nil => rfl
        | cons x r => simp [ByteArray.size] at hl
  · exact (hb1.grown hgrow (by have := hb1.size; omega) (fun k hk => (hown.lt k hk).1)).setCell (p := ⟨g, 1, none⟩) hB _

set_option maxHeartbeats 1000000 in
set_option maxRecDepth 100000 in
theorem bString_some (T : TypeId) (rest : List Value) (B g : Nat) (l : List UInt8) (w : World) (h : BOut T rest B g (Lib.byteCells l) w) (h0 : l ≠ []) :
    Calls Tryz.prog 42 #[.pointer (some ⟨g, 0, none⟩)] w fun e w' => e = .returned (.string ⟨l.toArray⟩) ∧ Below B w w' := by
  obtain ⟨p, hB, v, hbk, hown, hne, hnl⟩ : ∃ p, BIn T rest B g p (Lib.byteCells l) w := by
    rcases h with h | h
    · exact ⟨_, h⟩
    · exact ⟨_, h⟩
  clear h hnl; have hl0 : l.length ≠ 0 := by simpa using h0
  rw [Lib.byteCells_length] at hown; obtain ⟨k, cap, cur, rfl, hbg, hg, hnc, hcm, hcs, htake⟩ : ∃ k cap cur, v = .slice (some ⟨k, 0, none⟩) l.length cap ∧ B ≤ k ∧ w.heap[k]? = some (.cells cur 5 (0, 0)) ∧ l.length ≤ cap ∧ cap ≤ maxLen ∧ cur.size = cap * 1 ∧ cur.toList.take (l.length * 1) = Lib.byteCells l := by
    rcases hown.2 with ⟨_, hz⟩ | ⟨k, cap, cur, hv, r⟩
    · exact absurd hz hl0
    · exact ⟨k, cap, cur, hv, r⟩
  have c1 : w.drew.cell? ⟨g, 1, none⟩ = some (.slice (some ⟨k, 0, none⟩) l.length cap) := by
    have : w.drew.heap[g]? = some (.cells (p :: .slice (some ⟨k, 0, none⟩) l.length cap :: rest).toArray T (0, 0)) := hbk; rw [Lib.cell_of_heap this]; rfl
  have hSD : (Builtin.unsafeSliceData_ #[50] 102 #[.slice (some ⟨k, 0, none⟩) l.length cap]).run Tryz.prog w.drew = .ok (.pointer (some ⟨k, 0, none⟩)) w.drew :=
    Lib.run_unsafeSliceData_row _ _ _ _ _ _ (by omega)
  have hUS : (Builtin.unsafeString_ #[102, 3] 9 #[.pointer (some ⟨k, 0, none⟩), .int .i64 l.length]).run Tryz.prog w.drew = .ok (.string ⟨l.toArray⟩) (w.drew.freeze ⟨k, 0, none⟩ l.length) := by
    refine Lib.run_unsafeString_row w.drew 102 3 9 5 Tryz.underlying102 bcells k cur.size (by have hg' : w.drew.heap[k]? = some (.cells cur 5 (0, 0)) := hg; simp [World.shape?, hg']) l h0 (by omega) (by unfold maxLen at hcm; omega) ?_; intro j x hx; have := hown.cells (g := k) rfl j (.int .u8 x.toNat) (by simp [Lib.byteCells, hx]); exact this
  clear hown hnc hcm hcs htake hbk hne hl0 h0 hg; go_enter Tryz.func42, Tryz.ntmps42
  go_wp2
  go_region
  all_goals (go_wp2; go_ret; exact ⟨rfl, Lib.below_freeze (Below.drew (Below.refl B w)) (p := ⟨k, 0, none⟩) hbg _⟩)

set_option maxHeartbeats 2000000 in
set_option maxRecDepth 100000 in
theorem bString_none (T : TypeId) (rest : List Value) (B g : Nat) (w : World) (h : BOut T rest B g [] w) :
    Calls Tryz.prog 42 #[.pointer (some ⟨g, 0, none⟩)] w fun e w' => e = .returned (.string ⟨#[]⟩) ∧ Below B w w' := by
  obtain ⟨p, hB, v, hbk, hown, hne, hnl⟩ : ∃ p, BIn T rest B g p [] w := by
    rcases h with h | h
    · exact ⟨_, h⟩
    · exact ⟨_, h⟩
  obtain rfl := hnl rfl; clear h hnl hne hown; have hUS : ∀ (W : World) (q : Option Addr), (Builtin.unsafeString_ #[102, 3] 9 #[.pointer q, .int .i64 0]).run Tryz.prog W = .ok (.string .empty) W := fun W q => Lib.run_unsafeString_none W _ _ _ q
  have c1 : w.drew.cell? ⟨g, 1, none⟩ = some (.slice none 0 0) := by
    have : w.drew.heap[g]? = some (.cells (p :: .slice none 0 0 :: rest).toArray T (0, 0)) := hbk; rw [Lib.cell_of_heap this]; rfl
  have hSD : (Builtin.unsafeSliceData_ #[50] 102 #[.slice none 0 0]).run Tryz.prog w.drew = .ok (.pointer none) w.drew := rfl; clear hbk; go_enter Tryz.func42, Tryz.ntmps42
  go_wp2
  go_region
  all_goals (go_wp2; go_ret; exact ⟨rfl, Below.drew (Below.refl B w)⟩)

/-- String: the bytes. -/
theorem bString (T : TypeId) (rest : List Value) (B g : Nat) (s : ByteArray) (w : World) (h : BOut T rest B g (Lib.strCells s) w) :
    Calls Tryz.prog 42 #[.pointer (some ⟨g, 0, none⟩)] w fun e w' => e = .returned (.string s) ∧ Below B w w' := by
  have e0 : Lib.strCells s = Lib.byteCells s.data.toList := rfl
  by_cases hs : s.data.toList = []
  · have e1 : s = ⟨#[]⟩ := by
      cases s with
      | mk d => cases d with
        | mk l => simp at hs; subst hs; rfl
    subst e1; exact bString_none T rest B g w h
  · rw [e0] at h; have := bString_some T rest B g s.data.toList w h hs
    simpa using this
section
-- @GIVEN lib_repeat
section
open Go.Shelf
def Tryz.lays105_ren : Go.Shelf.Ren := ⟨fun | 105 => 41 | 212 => 58 | 99 => 59 | 165 => 60 | 166 => 40 | 170 => 61 | 169 => 42 | 263 => 77 | 264 => 78 | 206 => 79 | 240 => 57 | 241 => 80 | 276 => 76 | 277 => 89 | n => n, fun | 9 => 9 | 3 => 3 | 4 => 4 | 20 => 20 | 0 => 0 | 46 => 97 | 109 => 99 | 5 => 5 | 72 => 52 | 76 => 79 | 51 => 84 | 146 => 123 | 53 => 125 | 148 => 126 | 70 => 49 | 37 => 50 | 75 => 33 | 127 => 102 | 164 => 103 | 80 => 81 | n => n, fun | n => n⟩
theorem Tryz.lays105 : Go.Proofs.Lays.n105 Tryz.prog Tryz.lays105_ren := {
  mixed := by kernel_rfl
  f99 := Tryz.func59.trans (congrArg some (by kernel_rfl))
  f105 := Tryz.func41.trans (congrArg some (by kernel_rfl))
  f165 := Tryz.func60.trans (congrArg some (by kernel_rfl))
  f166 := Tryz.func40.trans (congrArg some (by kernel_rfl))
  f169 := Tryz.func42.trans (congrArg some (by kernel_rfl))
  f170 := Tryz.func61.trans (congrArg some (by kernel_rfl))
  f206 := Tryz.func79.trans (congrArg some (by kernel_rfl))
  f212 := Tryz.func58.trans (congrArg some (by kernel_rfl))
  f240 := Tryz.func57.trans (congrArg some (by kernel_rfl))
  f241 := Tryz.func80.trans (congrArg some (by kernel_rfl))
  f263 := Tryz.func77.trans (congrArg some (by kernel_rfl))
  f264 := Tryz.func78.trans (congrArg some (by kernel_rfl))
  f276 := Tryz.func76.trans (congrArg some (by kernel_rfl))
  f277 := Tryz.func89.trans (congrArg some (by kernel_rfl))
  t0 := Tryz.underlying0
  a0 := Tryz.isAgg0
  z0 := Tryz.sizeOf0
  v0 := Tryz.zeroValue0
  t3 := Tryz.underlying3
  a3 := Tryz.isAgg3
  z3 := Tryz.sizeOf3
  v3 := Tryz.zeroValue3
  t4 := Tryz.underlying4
  a4 := Tryz.isAgg4
  z4 := Tryz.sizeOf4
  v4 := Tryz.zeroValue4
  t5 := Tryz.underlying5
  a5 := Tryz.isAgg5
  z5 := Tryz.sizeOf5
  v5 := Tryz.zeroValue5
  t9 := Tryz.underlying9
  a9 := Tryz.isAgg9
  z9 := Tryz.sizeOf9
  v9 := Tryz.zeroValue9
  t20 := Tryz.underlying20
  a20 := Tryz.isAgg20
  z20 := Tryz.sizeOf20
  v20 := Tryz.zeroValue20
  t37 := Tryz.underlying50
  a37 := Tryz.isAgg50
  z37 := Tryz.sizeOf50
  v37 := Tryz.zeroValue50
  t46 := Tryz.underlying97
  a46 := Tryz.isAgg97
  z46 := Tryz.sizeOf97
  v46 := Tryz.zeroValue97
  t51 := Tryz.underlying84
  a51 := Tryz.isAgg84
  z51 := Tryz.sizeOf84
  v51 := Tryz.zeroValue84
  t53 := Tryz.underlying125
  a53 := Tryz.isAgg125
  z53 := Tryz.sizeOf125
  v53 := Tryz.zeroValue125
  t70 := Tryz.underlying49
  a70 := Tryz.isAgg49
  z70 := Tryz.sizeOf49
  v70 := Tryz.zeroValue49
  t72 := Tryz.underlying52
  a72 := Tryz.isAgg52
  z72 := Tryz.sizeOf52
  v72 := Tryz.zeroValue52
  t75 := Tryz.underlying33
  a75 := Tryz.isAgg33
  z75 := Tryz.sizeOf33
  v75 := Tryz.zeroValue33
  t76 := Tryz.underlying79
  a76 := Tryz.isAgg79
  z76 := Tryz.sizeOf79
  v76 := Tryz.zeroValue79
  t109 := Tryz.underlying99
  a109 := Tryz.isAgg99
  z109 := Tryz.sizeOf99
  v109 := Tryz.zeroValue99
  t127 := Tryz.underlying102
  a127 := Tryz.isAgg102
  z127 := Tryz.sizeOf102
  v127 := Tryz.zeroValue102
  t146 := Tryz.underlying123
  a146 := Tryz.isAgg123
  z146 := Tryz.sizeOf123
  v146 := Tryz.zeroValue123
  t148 := Tryz.underlying126
  a148 := Tryz.isAgg126
  z148 := Tryz.sizeOf126
  v148 := Tryz.zeroValue126
  t164 := Tryz.underlying103
  a164 := Tryz.isAgg103
  z164 := Tryz.sizeOf103
  v164 := Tryz.zeroValue103 }
theorem Tryz.Builder_Extra_105 : Builder.Extra Tryz.prog Tryz.lays105_ren := {
  sizeBuilder := by kernel_rfl
  liesBuilder := by kernel_rfl
  t5 := Tryz.underlying5
  a5 := Tryz.isAgg5
  z5 := Tryz.sizeOf5
  v5 := Tryz.zeroValue5
  infoByte := by kernel_rfl
  cellsByte := by kernel_rfl
  sizeByte := by kernel_rfl
  neB5 := by decide }
/-- **strings.Repeat: count ≥ 0, the result within one allocation: count copies of s.** (LAID: no walk: one application.) -/
theorem Tryz.strings_Repeat (s : ByteArray) (c : Nat) (w : World) (hc : c ≤ 9223372036854775807) (hlen : s.size * c ≤ 140737488355328) :
    Calls Tryz.prog 41 #[.string s, .int .i64 c] w fun e w' => e = .returned (.string ⟨(Lib.repeatL s.data.toList c).toArray⟩) ∧ Below w.heap.size w w' := Any.strings_Repeat Tryz.lays105 Tryz.Builder_Extra_105 s c w hc hlen
end
/-- Copies of one byte 0. -/
def zerosB (c : Nat) : ByteArray := ⟨(List.replicate c (0 : UInt8)).toArray⟩
theorem zerosB_size (c : Nat) : (zerosB c).size = c := by simp [zerosB, ByteArray.size]
theorem repeat0 (c : Nat) : Lib.repeatL [0] c = List.replicate c (0 : UInt8) := by
  induction c with
  | zero => rfl
  | succ c ih => rw [List.replicate_succ, ← ih]; rfl
theorem rep0 (c : Nat) (w : World) (hc : c ≤ 140737488355328) : Calls Tryz.prog 41 #[.string ⟨#[0]⟩, .int .i64 c] w fun e w' => e = .returned (.string (zerosB c)) ∧ Below w.heap.size w w' := by
  refine (Tryz.strings_Repeat ⟨#[0]⟩ c w (by omega) (by show 1 * c ≤ _; omega)).mono ?_; rintro e w' ⟨rfl, hb⟩; refine ⟨?_, hb⟩; rw [show (⟨#[0]⟩ : ByteArray).data.toList = [0] from rfl, repeat0]; rfl
theorem rep0i (n : Int) (c : Nat) (w : World) (hn : n = (c : Int)) (hc : c ≤ 140737488355328) : Calls Tryz.prog 41 #[.string ⟨#[0]⟩, .int .i64 n] w fun e w' => e = .returned (.string (zerosB c)) ∧ Below w.heap.size w w' := by
  subst hn; exact rep0 c w hc
end
-- @GIVEN le_Out
/-! ### le_Out: by hand -/
/-- A le.Out at block g, all in blocks from B on, that holds the bytes acc; long: did something not go into its bytes? -/
def OutIs (B g : Nat) (acc : ByteArray) (long : Bool) (w : World) : Prop := BOut 54 [.bool long] B g (Lib.strCells acc) w
theorem outLies (long : Bool) : BLies 54 [.bool long] := by unfold BLies; kernel_rfl
theorem OutIs.cell2 {B g : Nat} {acc : ByteArray} {long : Bool} {w : World} (h : OutIs B g acc long w) : w.cell? ⟨g, 2, none⟩ = some (.bool long) := by
  rcases h with ⟨_, v, hb, _⟩ | ⟨_, v, hb, _⟩ <;> (rw [Lib.cell_of_heap hb]; rfl)
theorem OutIs.frozen2 {B g : Nat} {acc : ByteArray} {long : Bool} {w : World} (h : OutIs B g acc long w) : w.frozen? ⟨g, 2, none⟩ = false := by
  rcases h with ⟨_, v, hb, _⟩ | ⟨_, v, hb, _⟩ <;> exact Lib.frozen_of_heap hb 2
theorem OutIs.as {B g : Nat} {acc acc' : ByteArray} {long long' : Bool} {w : World} (h : OutIs B g acc long w) (e : acc = acc') (e2 : long = long') : OutIs B g acc' long' w := by subst e; subst e2; exact h
/-- A new one. -/
theorem OutIs.new {B : Nat} {w w' : World} (h : w'.heap[w.heap.size]? = some (.cells #[.pointer none, .slice none 0 0, .bool false] 54 (0, 0))) (hB : B ≤ w.heap.size) : OutIs B w.heap.size ⟨#[]⟩ false w' :=
  .inl ⟨hB, .slice none 0 0, h, World.ownsRow_nil _ _ _ _, by simp [Value.ownBlock], fun _ => rfl⟩
theorem BKeep.below {g : Nat} {w w1 w2 : World} (h : BKeep g w w1) (hb : Below w1.heap.size w1 w2) : BKeep g w w2 := fun a cs t h1 h2 h3 => blk_below (h a cs t h1 h2 h3) hb
theorem out_flag {B g : Nat} {w w1 w2 : World} {u : Value} (hB : B ≤ w.heap.size) (hg : B ≤ g) (h1 : Below w.heap.size w w1) (h2 : Below B (w1.setCell ⟨g, 2, none⟩ u) w2) : Below B w w2 :=
  ((below_then (Below.refl B w) hB h1).setCell (p := ⟨g, 2, none⟩) hg u).trans h2
set_option maxHeartbeats 4000000 in
set_option maxRecDepth 100000 in
/-- Num: a number's bytes go behind. -/
theorem oNum (k : Nat) (B g : Nat) (acc : ByteArray) (long : Bool) (n size : Int) (s : ByteArray) (w : World) (h : OutIs B g acc long w) (hB : B ≤ w.heap.size) (hs : le_Put.f k n size = some s) (hlen : acc.size + s.size ≤ 140737488355328) :
    Calls Tryz.prog 15 #[.pointer (some ⟨g, 0, none⟩), .int .i64 n, .int .i64 size] w fun e w' => e = .returned (.tuple #[]) ∧ OutIs B g (acc ++ s) (long || s.toList.isEmpty) w' ∧ Below B w w' ∧ BKeep g w w' := by
  have HO := Aside0.mk h; have HS := Aside0.mk hs; have HLE := Aside0.mk hlen; have HB := Aside0.mk hB; clear h hs hlen hB; cases long
  all_goals
    go_enter Tryz.func15, Tryz.ntmps15
    go_wp2_with (first
      | (go_at_call 39; (with_reducible refine (le_Put.calls k n size s _ HS.out).mono ?_); rintro e w1 ⟨rfl, hb⟩; have HO1 := Aside0.mk (BOut.below HO.out hb); have HW1 := Aside0.mk hb; have hc2 := OutIs.cell2 HO1.out; have hf2 := OutIs.frozen2 HO1.out; clear hb)
      | (go_at_call 40; refine (bWrite 54 [.bool _] (outLies _) (by decide) B g (Lib.strCells acc) s _ (BOut.rest_set HO1.out) (by have := HLE.out; rw [Lib.strCells_length]; omega) (by simpa [World.setCell] using Nat.le_trans HB.out HW1.out.size)).mono ?_; rintro e w2 ⟨rfl, hbo, hbl, hbk⟩))
    go_end0
    exact ⟨rfl, by unfold OutIs; rw [bcells_append]; exact hbo, out_flag HB.out HO1.out.ge HW1.out hbl, (((BKeep.refl g w).below HW1.out).set 2 _).trans hbk⟩
/-- What Text makes of it. -/
def outText (acc : ByteArray) (long : Bool) (s : ByteArray) (size : Int) : ByteArray × Bool := if (s.size : Int) > size then (acc, true) else (acc ++ (s ++ zerosB (size - s.size).toNat), long)
set_option maxHeartbeats 4000000 in
set_option maxRecDepth 100000 in
/-- Text: a text's bytes go behind, and noughts. -/
theorem oText (B g : Nat) (acc : ByteArray) (long : Bool) (s : ByteArray) (size : Int) (w : World) (h : OutIs B g acc long w) (hB : B ≤ w.heap.size) (hsz : size ≤ 140737488355328) (hlen : (acc.size : Int) + size ≤ 140737488355328) :
    Calls Tryz.prog 16 #[.pointer (some ⟨g, 0, none⟩), .string s, .int .i64 size] w fun e w' => e = .returned (.tuple #[]) ∧ OutIs B g (outText acc long s size).1 (outText acc long s size).2 w' ∧ Below B w w' ∧ BKeep g w w' := by
  have HO := Aside0.mk h; have HLE := Aside0.mk hlen; have HZ := Aside0.mk hsz; have HB := Aside0.mk hB; have hc2 := OutIs.cell2 h; have hf2 := OutIs.frozen2 h; clear h hlen hB hsz
  by_cases c : (s.size : Int) > size
  · have cb : decide (size < (s.size : Int)) = true := decide_eq_true c; have e : outText acc long s size = (acc, true) := by unfold outText; rw [if_pos c]
    rw [e]; clear c e; go_enter Tryz.func16, Tryz.ntmps16
    go_wp2
    go_end0
    exact ⟨rfl, BOut.rest_set HO.out, (Below.refl B w).setCell (p := ⟨g, 2, none⟩) HO.out.ge _, (BKeep.refl g w).set 2 _⟩
  · have cb : decide (size < (s.size : Int)) = false := decide_eq_false c; have CC := Aside0.mk c; have hw : wrap64 (size - (s.size : Int)) = ((size - (s.size : Int)).toNat : Int) := by have := HZ.out; unfold wrap64; omega
    have HWR := Aside0.mk hw; have e : outText acc long s size = (acc ++ (s ++ zerosB (size - s.size).toNat), long) := by unfold outText; rw [if_neg c]
    rw [e]; clear c e hw; go_enter Tryz.func16, Tryz.ntmps16
    go_wp2_with (go_at_call 40; refine (bWrite 54 [.bool long] (outLies _) (by decide) B g (Lib.strCells acc) s _ HO.out (by have := HLE.out; have := HZ.out; have := CC.out; rw [Lib.strCells_length]; omega) HB.out).mono ?_; rintro e w2 ⟨rfl, hbo, hbl, hbk⟩)
    refine start_ (n := 9) (S := fun w' => True) (ds := []) #[false, false, false, false, false, false, false, false, false] (by kernel_rfl) rfl rfl trivial (fun hHeld => ?_); refine zp 0 11 #[true, false, false, false, false, false, false, false, false] ?_
    refine zp 1 12 #[true, true, false, false, false, false, false, false, false] ?_
    refine zp 2 13 #[true, true, true, false, false, false, false, false, false] ?_
    refine zp 3 14 #[true, true, true, true, false, false, false, false, false] ?_
    refine zp 4 15 #[true, true, true, true, true, false, false, false, false] ?_
    refine zp 5 16 #[true, true, true, true, true, true, false, false, false] ?_
    refine zp 6 17 #[true, true, true, true, true, true, true, false, false] ?_
    refine zo 7 18 #[true, true, true, true, true, true, true, true, false] (fun K hK => ?_); refine goes_ Tryz.func41 (by kernel_rfl) rfl #[.string ⟨#[0]⟩, .int .i64 (wrap64 (size - (s.size : Int)))] (by rfl) rfl rfl z37 ?_
    with_reducible refine (rep0i (wrap64 (size - (s.size : Int))) (size - (s.size : Int)).toNat _ HWR.out (by have := HLE.out; have := HZ.out; omega)).mono ?_
    rintro e w3 ⟨rfl, hb3⟩; refine ⟨_, rfl, ?_⟩; refine hK.out _ _ trivial (fun hHeld => ?_); clear hK K; refine zn ?_
    refine zo 8 19 #[true, true, true, true, true, true, true, true, true] (fun K hK => ?_); refine goes_ Tryz.func40 (by kernel_rfl) rfl #[.pointer (some ⟨g, 0, none⟩), .string (zerosB (size - (s.size : Int)).toNat)] (by rfl) rfl rfl z37 ?_
    with_reducible refine (bWrite 54 [.bool long] (outLies _) (by decide) B g (Lib.strCells acc ++ Lib.strCells s) (zerosB _) _ (BOut.below (BOut.drew hbo) hb3) (by have := HLE.out; have := HZ.out; have := CC.out; rw [List.length_append, Lib.strCells_length, Lib.strCells_length, zerosB_size]; omega) (Nat.le_trans HB.out (Nat.le_trans hbl.drew.size hb3.size))).mono ?_
    rintro e w4 ⟨rfl, hbo4, hbl4, hbk4⟩; refine ⟨_, rfl, ?_⟩; refine hK.out _ _ trivial (fun hHeld => ?_); clear hK K; refine zn ?_
    refine done_ (by kernel_rfl) ?_; go_wp2
    go_end0
    have hbd : Below B w w2.drew := hbl.drew; have hkd : BKeep g w w2.drew := hbk; exact ⟨rfl, by unfold OutIs; rw [bcells_append, bcells_append, ← List.append_assoc]; exact hbo4, (below_then hbd (Nat.le_trans HB.out hbd.size) hb3).trans hbl4, (hkd.below hb3).trans hbk4⟩
/-- What String answers. -/
def outString (acc : ByteArray) (long : Bool) : ByteArray × Option Int := if long = true then (⟨#[]⟩, some 10) else (acc, none)
set_option maxHeartbeats 4000000 in
set_option maxRecDepth 100000 in
/-- String: the bytes, or an error. -/
theorem oString (B g : Nat) (acc : ByteArray) (long : Bool) (w : World) (h : OutIs B g acc long w) :
    Calls Tryz.prog 17 #[.pointer (some ⟨g, 0, none⟩)] w fun e w' => e = .returned (.tuple #[.string (outString acc long).1, errW (outString acc long).2]) ∧ Below B w w' := by
  have HO := Aside0.mk h; have hc2 := OutIs.cell2 h; have hf2 := OutIs.frozen2 h; clear h; cases long
  · go_enter Tryz.func17, Tryz.ntmps17
    go_wp2_with (go_at_call 42; refine (bString 54 [.bool false] B g acc _ HO.out).mono ?_; rintro e w1 ⟨rfl, hb⟩)
    go_ret2
    exact ⟨rfl, hb⟩
  · go_enter Tryz.func17, Tryz.ntmps17
    go_wp2
    go_ret2
    exact ⟨rfl, Below.refl B w⟩
-- @GIVEN strings_Repeat
/-! ### strings_Repeat: by hand -/
def strings_Repeat.f (s : ByteArray) (c : Int) : Option ByteArray := if 0 ≤ c ∧ (s.size : Int) * c ≤ 140737488355328 ∧ c ≤ 9223372036854775807 then some ⟨(Lib.repeatL s.data.toList c.toNat).toArray⟩ else none
theorem strings_Repeat.calls (s : ByteArray) (c : Int) (r : ByteArray) (w : World) (h : strings_Repeat.f s c = some r) :
    Calls Tryz.prog 41 #[.string s, .int .i64 c] w fun e w' => e = .returned (.string r) ∧ Below w.heap.size w w' := by
  unfold strings_Repeat.f at h
  split at h
  · rename_i hc
    obtain ⟨n, rfl⟩ := Int.eq_ofNat_of_zero_le hc.1; obtain rfl := Option.some.inj h; rw [Int.toNat_natCast]; exact Tryz.strings_Repeat s n w (by omega) (by have := hc.2.1; have e : ((s.size * n : Nat) : Int) = (s.size : Int) * (n : Int) := Int.natCast_mul _ _; omega)
  · cases h
/-! ### mark_head: function 43 -/
def mark_head.f (k : Nat) (a0 : Int) : Option (ByteArray) := (le_Put.f k a0 1).bind fun t110 => (if 2 + t110.size ≤ 9223372036854775807 then (if ((⟨#[80, 72]⟩ : ByteArray) ++ t110).size + 1 ≤ 9223372036854775807 then (some (((⟨#[80, 72]⟩ : ByteArray) ++ t110) ++ (⟨#[0]⟩ : ByteArray))) else (none)) else (none))
set_option maxHeartbeats 8000000 in
set_option maxRecDepth 100000 in
theorem mark_head.calls (k : Nat) (a0 : Int) (r : ByteArray) (w : World) (h : mark_head.f k a0 = some r) :
    Calls Tryz.prog 43 #[.int .i64 a0] w fun e w' => e = .returned (.string r) ∧ Below w.heap.size w w' := by
  have HB := Aside0.mk (Below.refl w.heap.size w); have H : ((le_Put.f k a0 1).bind fun t110 => (if 2 + t110.size ≤ 9223372036854775807 then (if ((⟨#[80, 72]⟩ : ByteArray) ++ t110).size + 1 ≤ 9223372036854775807 then (some (((⟨#[80, 72]⟩ : ByteArray) ++ t110) ++ (⟨#[0]⟩ : ByteArray))) else (none)) else (none))) = some r := h; clear h; replace H := Option.bind_eq_some_iff.mp H; obtain ⟨t110, A20, H⟩ := H; replace H : (if 2 + t110.size ≤ 9223372036854775807 then (if ((⟨#[80, 72]⟩ : ByteArray) ++ t110).size + 1 ≤ 9223372036854775807 then (some (((⟨#[80, 72]⟩ : ByteArray) ++ t110) ++ (⟨#[0]⟩ : ByteArray))) else (none)) else (none)) = some r := H; have A2 := Aside0.mk A20; clear A20
  by_cases c3 : 2 + t110.size ≤ 9223372036854775807
  · rw [if_pos c3] at H; have c3b0 := eq_true c3
    try (have c3sa0 := c3b0; simp only [ByteArray.size_append, Int.natCast_add] at c3sa0)
    have c3b1 : decide (2 + t110.size ≤ 9223372036854775807) = true := decide_eq_true c3
    try have c3b2 : (9223372036854775807 < 2 + t110.size) = False := eq_false (Nat.not_lt.2 c3)
    by_cases c4 : ((⟨#[80, 72]⟩ : ByteArray) ++ t110).size + 1 ≤ 9223372036854775807
    · rw [if_pos c4] at H; have c4b0 := eq_true c4
      try (have c4sa0 := c4b0; simp only [ByteArray.size_append, Int.natCast_add] at c4sa0)
      have c4b1 : decide (((⟨#[80, 72]⟩ : ByteArray) ++ t110).size + 1 ≤ 9223372036854775807) = true := decide_eq_true c4
      try (have c4sa1 := c4b1; simp only [ByteArray.size_append, Int.natCast_add] at c4sa1)
      try have c4b2 : (9223372036854775807 < ((⟨#[80, 72]⟩ : ByteArray) ++ t110).size + 1) = False := eq_false (Nat.not_lt.2 c4)
      try have c4sd0 := eq_true (show 2 + t110.size + 1 ≤ 9223372036854775807 from by have h_ := c4; simp only [ByteArray.size_append] at h_; have e0_ : (⟨#[80, 72]⟩ : ByteArray).size = 2 := rfl; omega)
      try have c4sd1 : decide (2 + t110.size + 1 ≤ 9223372036854775807) = true := decide_eq_true (by have h_ := c4; simp only [ByteArray.size_append] at h_; have e0_ : (⟨#[80, 72]⟩ : ByteArray).size = 2 := rfl; omega)
      try have c4sd2 : (9223372036854775807 < 2 + t110.size + 1) = False := eq_false (by have h_ := c4; simp only [ByteArray.size_append] at h_; have e0_ : (⟨#[80, 72]⟩ : ByteArray).size = 2 := rfl; omega)
      obtain rfl := Option.some.inj H; go_enter Tryz.func43, Tryz.ntmps43
      go_wp2_with (first | ((with_reducible refine gate_callee (f := 39) rfl ?_); refine goesL_ (some 4) rfl rfl Tryz.func39 (by kernel_rfl) rfl #[.int .i64 a0, .int .i64 1] rfl z6 ?_; (with_reducible refine (le_Put.calls k a0 1 t110 _ A2.out).mono ?_); rintro e w5 ⟨rfl, hb⟩; refine ⟨_, rfl, ?_⟩; have n0_ := Aside0.mk (below_step z8 hb); clear HB; have HB := n0_; clear n0_; (try clear hb); (try clear hb2); (try clear hk); (try clear hi)))
      go_ret
      exact ⟨z12, z8⟩
    · rw [if_neg c4] at H; exact absurd H (by simp)
  · rw [if_neg c3] at H; exact absurd H (by simp)
-- @GIVEN lib_laid
/-- What is known of the package-level variables that the row lists. -/
def Laid (w : World) : Prop := (True) ∧ (w.cell? ⟨0, 0, none⟩ = some (.iface 130 (.agg #[.pointer (some ⟨5, 33, none⟩)]))) ∧ (∀ i : Nat, i < 16 → w.cell? ⟨1, i, none⟩ = some (.int .u32 ([0, 274646895, 549293790, 820201905, 1098587580, 1361435347, 1640403810, 1905808397, 2197175160, 2460548119, 2722870694, 2987750089, 3280807620, 3553878443, 3811616794, 4084100981].getD i 0 : Nat))) ∧ (True)
theorem Laid.below {w w' : World} (h : Laid w) (hb : Below w.heap.size w w') : Laid w' := ⟨trivial, pw_cell_below hb h.2.1, fun i hi => pw_cell_below hb (h.2.2.1 i hi), trivial⟩
theorem Laid.errorType {w : World} (h : Laid w) : w.cell? ⟨0, 0, none⟩ = some (.iface 130 (.agg #[.pointer (some ⟨5, 33, none⟩)])) := h.2.1
theorem Laid.nibbles {w : World} (h : Laid w) : ∀ i : Nat, i < 16 → w.cell? ⟨1, i, none⟩ = some (.int .u32 ([0, 274646895, 549293790, 820201905, 1098587580, 1361435347, 1640403810, 1905808397, 2197175160, 2460548119, 2722870694, 2987750089, 3280807620, 3553878443, 3811616794, 4084100981].getD i 0 : Nat)) := h.2.2.1
-- @GIVEN mark_Sum
/-! ### mark_Sum: by hand -/
/-- What four bits of a register come to. -/
def nibs : List Nat := [0, 274646895, 549293790, 820201905, 1098587580, 1361435347, 1640403810, 1905808397, 2197175160, 2460548119, 2722870694, 2987750089, 3280807620, 3553878443, 3811616794, 4084100981]
/-- Half a byte. -/
def nibStep (r : Nat) : Nat := (r / 16) ^^^ nibs.getD (r % 16) 0
/-- A byte. -/
def sumStep (r b : Nat) : Nat := nibStep (nibStep (r ^^^ b))
/-- The register behind some bytes. -/
def sumReg (l : List UInt8) : Nat := l.foldl (fun r b => sumStep r b.toNat) 4294967295
/-- The sum of a text. -/
def sumOfL (l : List UInt8) : Nat := 4294967295 - sumReg l
def mark_Sum.f (s : ByteArray) : Option Int := if s.size ≤ 140737488355328 then some (sumOfL s.data.toList : Int) else none
theorem nibs_lt (i : Nat) : nibs.getD i 0 < 4294967296 := by
  by_cases h : i < 16
  · have : ∀ j : Fin 16, nibs.getD j.val 0 < 4294967296 := by decide
    exact this ⟨i, h⟩
  · rw [List.getD_eq_getElem?_getD, List.getElem?_eq_none (by show 16 ≤ i; omega)]; decide
theorem nibStep_lt {r : Nat} (h : r < 4294967296) : nibStep r < 4294967296 := Nat.xor_lt_two_pow (n := 32) (by omega) (nibs_lt _)
theorem xor_lt32 {a b : Nat} (ha : a < 4294967296) (hb : b < 4294967296) : a ^^^ b < 4294967296 := Nat.xor_lt_two_pow (n := 32) ha hb
theorem sumStep_lt {r b : Nat} (h : r < 4294967296) (hb : b < 256) : sumStep r b < 4294967296 := nibStep_lt (nibStep_lt (xor_lt32 h (by omega)))
theorem sumReg_lt (l : List UInt8) : sumReg l < 4294967296 := by
  have : ∀ (l : List UInt8) (r : Nat), r < 4294967296 → l.foldl (fun r b => sumStep r b.toNat) r < 4294967296 := by
    intro l
    induction l with
    | nil => intro r h; exact h
    | cons b l ih => intro r h; exact ih _ (sumStep_lt h b.toNat_lt)
  exact this l _ (by decide)
theorem u32n (a : Nat) (ha : a < 4294967296) : (BitVec.ofInt 32 (a : Int)).toNat = a := by
  rw [BitVec.ofInt_natCast, BitVec.toNat_ofNat]; exact Nat.mod_eq_of_lt (by omega)
theorem xor_u32 (a b : Nat) (ha : a < 4294967296) (hb : b < 4294967296) : Go.bits .xor .u32 (a : Int) (b : Int) = ((a ^^^ b : Nat) : Int) := by
  have hx := xor_lt32 ha hb
  show IntKind.u32.wrap ((BitVec.ofInt 32 (a : Int) ^^^ BitVec.ofInt 32 (b : Int)).toNat : Int) = _
  rw [BitVec.toNat_xor, u32n a ha, u32n b hb]; simp only [IntKind.wrap, IntKind.bits, IntKind.signed]; simp; omega
theorem and15_u32 (a : Nat) (ha : a < 4294967296) : Go.bits .and .u32 (a : Int) 15 = ((a % 16 : Nat) : Int) := by
  show IntKind.u32.wrap ((BitVec.ofInt 32 (a : Int) &&& BitVec.ofInt 32 ((15 : Nat) : Int)).toNat : Int) = _
  rw [BitVec.toNat_and, u32n a ha, u32n 15 (by decide), show a &&& 15 = a % 16 from Nat.and_two_pow_sub_one_eq_mod a 4]; simp only [IntKind.wrap, IntKind.bits, IntKind.signed]; simp; omega
theorem not_u32 (a : Nat) (ha : a < 4294967296) : Go.bits .xor .u32 IntKind.u32.max (a : Int) = ((4294967295 - a : Nat) : Int) := by
  show IntKind.u32.wrap ((BitVec.ofInt 32 IntKind.u32.max ^^^ BitVec.ofInt 32 (a : Int)).toNat : Int) = _
  rw [show BitVec.ofInt 32 IntKind.u32.max = BitVec.allOnes 32 from rfl, BitVec.allOnes_xor, BitVec.toNat_not, u32n a ha]; simp only [IntKind.wrap, IntKind.bits, IntKind.signed]; simp; omega
set_option maxHeartbeats 4000000 in
set_option maxRecDepth 100000 in
theorem mark_Sum.calls (s : ByteArray) (r : Int) (w : World) (hL_ : Laid w) (h : mark_Sum.f s = some r) :
    Calls Tryz.prog 62 #[.string s] w fun e w' => e = .returned (.int .u32 r) ∧ Below w.heap.size w w' := by
  have HL_ := Aside0.mk hL_; clear hL_; unfold mark_Sum.f at h
  by_cases hs : s.size ≤ 140737488355328
  case neg => rw [if_neg hs] at h; cases h
  rw [if_pos hs] at h; obtain rfl : (sumOfL s.data.toList : Int) = r := Option.some.inj h; have HS_ := Aside0.mk hs; clear h hs; have HN := Aside0.mk (show ∀ i : Nat, i < 16 → w.cell? ⟨1, i, none⟩ = some (.int .u32 (nibs.getD i 0 : Nat)) from fun i hi => Laid.nibbles HL_.out i hi)

  refine Calls.mono (R := fun e w' => e = .returned (.int .u32 (sumOfL s.data.toList : Int)) ∧ w' = w) ?_ (fun e w' h => ⟨h.1, by rw [h.2]; exact Below.refl _ _⟩); go_enter Tryz.func62, Tryz.ntmps62
  go_wp2
  go_loopg [3, 7] (s.size + 1) (fun kq v3 v7 w' => ∃ i : Nat, v7 = .int .i64 (i : Int) ∧ v3 = .int .u32 (sumReg (s.data.toList.take i) : Nat) ∧ Aside0 (i ≤ s.size ∧ kq = s.size - i + 1) ∧ w' = w)
  case atStart => exact ⟨0, rfl, rfl, ⟨by omega, by omega⟩, rfl⟩
  case round =>
    obtain ⟨i, rfl, rfl, HI, rfl⟩ := hrel
    by_cases c : i < s.size
    · have cb : decide ((i : Int) < (s.size : Int)) = true := decide_eq_true (by omega); have cb1 := eq_true (show (i : Int) < (s.size : Int) by omega); have cb2 := eq_true c; have hlt : i < s.data.toList.length := by rw [Array.length_toList]; exact c
      have hsl : s.data.toList[i] = s[i]'c := by rw [Array.getElem_toList]; rfl
      have hb := (s[i]'c).toNat_lt; have hnext : sumReg (s.data.toList.take (i + 1)) = nibStep (nibStep (sumReg (s.data.toList.take i) ^^^ (s[i]'c).toNat)) := by
        unfold sumReg; rw [List.take_succ_eq_append_getElem hlt, List.foldl_append, hsl]; rfl
      have hrg := sumReg_lt (s.data.toList.take i); have E1 : Go.bits .xor .u32 ((sumReg (s.data.toList.take i) : Nat) : Int) ((((s[i]'c).toNat : Nat) : Int) % 4294967296) = ((sumReg (s.data.toList.take i) ^^^ (s[i]'c).toNat : Nat) : Int) := by
        rw [show (((s[i]'c).toNat : Nat) : Int) % 4294967296 = (((s[i]'c).toNat : Nat) : Int) by omega, xor_u32 _ _ hrg (by omega)]
      have hr1 := xor_lt32 hrg (show (s[i]'c).toNat < 4294967296 by omega); generalize sumReg (s.data.toList.take i) ^^^ (s[i]'c).toNat = r1 at *; have E2 := and15_u32 r1 hr1; have hi1 : r1 % 16 < 16 := Nat.mod_lt _ (by decide); have N1 := HN.out (r1 % 16) hi1; have E3 : Go.bits .xor .u32 ((r1 : Int) / 16) ((nibs.getD (r1 % 16) 0 : Nat) : Int) = ((nibStep r1 : Nat) : Int) := by
        rw [show (r1 : Int) / 16 = ((r1 / 16 : Nat) : Int) by omega, xor_u32 _ _ (by omega) (nibs_lt _)]; rfl
      have hr2 := nibStep_lt hr1; generalize nibStep r1 = r2 at *; have E4 := and15_u32 r2 hr2; have hi2 : r2 % 16 < 16 := Nat.mod_lt _ (by decide); have N2 := HN.out (r2 % 16) hi2; have E5 : Go.bits .xor .u32 ((r2 : Int) / 16) ((nibs.getD (r2 % 16) 0 : Nat) : Int) = ((nibStep r2 : Nat) : Int) := by
        rw [show (r2 : Int) / 16 = ((r2 / 16 : Nat) : Int) by omega, xor_u32 _ _ (by omega) (nibs_lt _)]; rfl
      generalize nibs.getD (r1 % 16) 0 = n1 at *; generalize nibs.getD (r2 % 16) 0 = n2 at *; generalize r1 % 16 = i1 at *; generalize r2 % 16 = i2 at *; have d1 : decide ((i1 : Int) < 16) = true := decide_eq_true (by omega); have d2 : decide ((i2 : Int) < 16) = true := decide_eq_true (by omega); have d1' := eq_true (show (i1 : Int) < 16 by omega); have d2' := eq_true (show (i2 : Int) < 16 by omega); clear hrg hr1 hr2 hsl hlt hb; go_wp2
      go_roundg (s.size - i)
      case measure => have := HI.out; omega
      case rel => exact ⟨i + 1, (by rw [show wrap64 ((i : Int) + 1) = ((i + 1 : Nat) : Int) by have := HS_.out; unfold wrap64; omega]), (by rw [hnext]), ⟨by have := HI.out; omega, by have := HI.out; omega⟩, rfl⟩
    · have cb : decide ((i : Int) < (s.size : Int)) = false := decide_eq_false (by omega); obtain rfl : i = s.size := by have := HI.out; omega
      have hrg := sumReg_lt s.data.toList; have ht : s.data.toList.take s.size = s.data.toList := List.take_of_length_le (by rw [Array.length_toList]; exact Nat.le_refl _); have hnot := not_u32 _ hrg; go_wp2
      go_ret
      exact ⟨rfl, rfl⟩
/-! ### mark_sumOf: function 44 -/
def mark_sumOf.f (k : Nat) (a0 : ByteArray) : Option (ByteArray) := (mark_Sum.f a0).bind fun t111 => ((le_Put.f k (wrap64 (t111)) 4).bind fun t112 => (some t112))
set_option maxHeartbeats 8000000 in
set_option maxRecDepth 100000 in
theorem mark_sumOf.calls (k : Nat) (a0 : ByteArray) (r : ByteArray) (w : World) (hL_ : Laid w) (h : mark_sumOf.f k a0 = some r) :
  Calls Tryz.prog 44 #[.string a0] w fun e w' => e = .returned (.string r) ∧ Below w.heap.size w w' := by
 have HL_ := Aside0.mk hL_; clear hL_; have HB := Aside0.mk (Below.refl w.heap.size w); have H : ((mark_Sum.f a0).bind fun t111 => ((le_Put.f k (wrap64 (t111)) 4).bind fun t112 => (some t112))) = some r := h; clear h; replace H := Option.bind_eq_some_iff.mp H; obtain ⟨t111, A20, H⟩ := H; replace H : ((le_Put.f k (wrap64 (t111)) 4).bind fun t112 => (some t112)) = some r := H; have A2 := Aside0.mk A20; clear A20; replace H := Option.bind_eq_some_iff.mp H; obtain ⟨t112, A30, H⟩ := H; replace H : (some t112) = some r := H; have A3 := Aside0.mk A30; clear A30; obtain rfl := Option.some.inj H; go_enter Tryz.func44, Tryz.ntmps44
 go_wp2_with (first | ((with_reducible refine gate_callee (f := 62) rfl ?_); refine goesL_ (some 4) rfl rfl Tryz.func62 (by kernel_rfl) rfl #[.string a0] rfl z6 ?_; (with_reducible refine (mark_Sum.calls a0 t111 _ (Laid.below HL_.out z8) A2.out).mono ?_); rintro e w4 ⟨rfl, hb⟩; refine ⟨_, rfl, ?_⟩; have n0_ := Aside0.mk (below_step z8 hb); clear HB; have HB := n0_; clear n0_; (try clear hb); (try clear hb2); (try clear hk); (try clear hi)) | ((with_reducible refine gate_callee (f := 39) rfl ?_); refine goesL_ (some 6) rfl rfl Tryz.func39 (by kernel_rfl) rfl #[.int .i64 (wrap64 (t111)), .int .i64 4] rfl z6 ?_; (with_reducible refine (le_Put.calls k (wrap64 (t111)) 4 t112 _ A3.out).mono ?_); rintro e w5 ⟨rfl, hb⟩; refine ⟨_, rfl, ?_⟩; have n0_ := Aside0.mk (below_step z8 hb); clear HB; have HB := n0_; clear n0_; (try clear hb); (try clear hb2); (try clear hk); (try clear hi)))
 go_ret
 exact ⟨z12, z8⟩

/-! ### mark_Seal: function 18 -/
def mark_Seal.j0 : Nat → Int → ByteArray → Bool → Option (ByteArray × Option Int)
 | 0, _, _, _ => none
 | k + 1, x0, x1, x7 => if x7 = true then (some ((⟨#[]⟩ : ByteArray), some 1)) else (if (x1.size : Int) > 504 then (some ((⟨#[]⟩ : ByteArray), some 10)) else ((mark_head.f k x0).bind fun t113 => (if t113.size + x1.size ≤ 9223372036854775807 then ((strings_Repeat.f (⟨#[0]⟩ : ByteArray) (wrap64 (504 - (x1.size : Int)))).bind fun t114 => (if (t113 ++ x1).size + t114.size ≤ 9223372036854775807 then ((mark_sumOf.f k ((t113 ++ x1) ++ t114)).bind fun t115 => (if ((t113 ++ x1) ++ t114).size + t115.size ≤ 9223372036854775807 then (some (((t113 ++ x1) ++ t114) ++ t115, none)) else (none))) else (none))) else (none))))
def mark_Seal.f (k : Nat) (a0 : Int) (a1 : ByteArray) : Option (ByteArray × Option Int) := if a0 < 1 then (mark_Seal.j0 k a0 a1 true) else (mark_Seal.j0 k a0 a1 (decide (a0 > 255)))
set_option maxHeartbeats 8000000 in
set_option maxRecDepth 100000 in
theorem mark_Seal.calls (k : Nat) (a0 : Int) (a1 : ByteArray) (r1 : ByteArray) (r2 : Option Int) (w : World) (hL_ : Laid w) (h : mark_Seal.f k a0 a1 = some (r1, r2)) :
  Calls Tryz.prog 18 #[.int .i64 a0, .string a1] w fun e w' => e = .returned (.tuple #[.string r1, errW r2]) ∧ Below w.heap.size w w' := by
 have HL_ := Aside0.mk hL_; clear hL_; have hu33 := Tryz.underlying33; have hu48 := Tryz.underlying48; have HB := Aside0.mk (Below.refl w.heap.size w); have H : (if a0 < 1 then (mark_Seal.j0 k a0 a1 true) else (mark_Seal.j0 k a0 a1 (decide (a0 > 255)))) = some (r1, r2) := h; clear h; have HC3 := Aside0.mk H; clear H; go_enter Tryz.func18, Tryz.ntmps18
 go_upto_region 1 with (fail)
 go_cut [7] (fun v7 wc => ∃ (kq : Nat) (x7_2 : Bool), v7 = .bool x7_2 ∧ Aside0 (mark_Seal.j0 kq a0 a1 x7_2 = some (r1, r2)) ∧ Aside0 (kq ≤ k) ∧ Aside0 (Below w.heap.size w wc))
 case first =>
  have H := HC3.out; clear HC3
  by_cases c4 : a0 < 1
  ·rw [if_pos c4] at H; have c4b0 : decide (a0 < 1) = true := decide_eq_true c4; clear c4
   (first | rw [c4b0] | (simp only [i64_w, i32_w]; rw [c4b0]) | skip)
   have H' := Aside0.mk H; clear H; go_wp2
   go_meet
   case rel => exact ⟨_, (true), z13, H', ⟨z31⟩, ⟨z8⟩⟩
  ·rw [if_neg c4] at H; have c4b0 : decide (a0 < 1) = false := decide_eq_false c4; clear c4
   (first | rw [c4b0] | (simp only [i64_w, i32_w]; rw [c4b0]) | skip)
   have H' := Aside0.mk H; clear H; go_wp2
   go_meet
   case rel => exact ⟨_, (decide (a0 > 255)), z13, H', ⟨z31⟩, ⟨z8⟩⟩
 case rest =>
  clear HC3; obtain ⟨kq, x7_2, rfl, HA, HJ2, HB⟩ := hcut; cases kq with
  | zero => exact absurd HA.out (by simp [mark_Seal.j0])
  | succ kj2 =>
   have H := HA.out; clear HA; simp only [mark_Seal.j0] at H
   by_cases c5 : x7_2 = true
   ·subst c5; have H1 : (some ((⟨#[]⟩ : ByteArray), some 1)) = some (r1, r2) := by rw [if_pos rfl] at H; exact H
    clear H; have H := H1; clear H1; simp only [Option.some.injEq, Prod.mk.injEq] at H; obtain ⟨rfl, rfl⟩ := H; go_wp2
    go_ret2
    exact ⟨z12, z8⟩
   ·replace c5 := Bool.eq_false_iff.mpr c5; subst c5; have H1 : (if (a1.size : Int) > 504 then (some ((⟨#[]⟩ : ByteArray), some 10)) else ((mark_head.f kj2 a0).bind fun t113 => (if t113.size + a1.size ≤ 9223372036854775807 then ((strings_Repeat.f (⟨#[0]⟩ : ByteArray) (wrap64 (504 - (a1.size : Int)))).bind fun t114 => (if (t113 ++ a1).size + t114.size ≤ 9223372036854775807 then ((mark_sumOf.f kj2 ((t113 ++ a1) ++ t114)).bind fun t115 => (if ((t113 ++ a1) ++ t114).size + t115.size ≤ 9223372036854775807 then (some (((t113 ++ a1) ++ t114) ++ t115, none)) else (none))) else (none))) else (none)))) = some (r1, r2) := by rw [if_neg (show ¬ (false = true) by decide)] at H; exact H
    clear H; have H := H1; clear H1
    by_cases c6 : (a1.size : Int) > 504
    ·rw [if_pos c6] at H; have c6b0 : decide (504 < (a1.size : Int)) = true := decide_eq_true c6; have c6b1 : decide (504 < a1.size) = true := decide_eq_true (by omega); clear c6; simp only [Option.some.injEq, Prod.mk.injEq] at H; obtain ⟨rfl, rfl⟩ := H; go_wp2
     go_ret2
     exact ⟨z12, z8⟩
    ·rw [if_neg c6] at H; have c6b0 : decide (504 < (a1.size : Int)) = false := decide_eq_false c6; have c6b1 : decide (504 < a1.size) = false := decide_eq_false (by omega); clear c6; replace H := Option.bind_eq_some_iff.mp H; obtain ⟨t113, A70, H⟩ := H; replace H : (if t113.size + a1.size ≤ 9223372036854775807 then ((strings_Repeat.f (⟨#[0]⟩ : ByteArray) (wrap64 (504 - (a1.size : Int)))).bind fun t114 => (if (t113 ++ a1).size + t114.size ≤ 9223372036854775807 then ((mark_sumOf.f kj2 ((t113 ++ a1) ++ t114)).bind fun t115 => (if ((t113 ++ a1) ++ t114).size + t115.size ≤ 9223372036854775807 then (some (((t113 ++ a1) ++ t114) ++ t115, none)) else (none))) else (none))) else (none)) = some (r1, r2) := H; have A7 := Aside0.mk A70; clear A70
     by_cases c8 : t113.size + a1.size ≤ 9223372036854775807
     ·rw [if_pos c8] at H; have c8b0 := eq_true c8
      try (have c8sa0 := c8b0; simp only [ByteArray.size_append, Int.natCast_add] at c8sa0)
      have c8b1 : decide (t113.size + a1.size ≤ 9223372036854775807) = true := decide_eq_true c8
      try have c8b2 : (9223372036854775807 < t113.size + a1.size) = False := eq_false (Nat.not_lt.2 c8)
      replace H := Option.bind_eq_some_iff.mp H; obtain ⟨t114, A90, H⟩ := H; replace H : (if (t113 ++ a1).size + t114.size ≤ 9223372036854775807 then ((mark_sumOf.f kj2 ((t113 ++ a1) ++ t114)).bind fun t115 => (if ((t113 ++ a1) ++ t114).size + t115.size ≤ 9223372036854775807 then (some (((t113 ++ a1) ++ t114) ++ t115, none)) else (none))) else (none)) = some (r1, r2) := H; have A9 := Aside0.mk A90; clear A90
      by_cases c10 : (t113 ++ a1).size + t114.size ≤ 9223372036854775807
      ·rw [if_pos c10] at H; have c10b0 := eq_true c10
       try (have c10sa0 := c10b0; simp only [ByteArray.size_append, Int.natCast_add] at c10sa0)
       have c10b1 : decide ((t113 ++ a1).size + t114.size ≤ 9223372036854775807) = true := decide_eq_true c10
       try (have c10sa1 := c10b1; simp only [ByteArray.size_append, Int.natCast_add] at c10sa1)
       try have c10b2 : (9223372036854775807 < (t113 ++ a1).size + t114.size) = False := eq_false (Nat.not_lt.2 c10)
       try have c10sd0 := eq_true (show t113.size + a1.size + t114.size ≤ 9223372036854775807 from by have h_ := c10; simp only [ByteArray.size_append] at h_; omega)
       try have c10sd1 : decide (t113.size + a1.size + t114.size ≤ 9223372036854775807) = true := decide_eq_true (by have h_ := c10; simp only [ByteArray.size_append] at h_; omega)
       try have c10sd2 : (9223372036854775807 < t113.size + a1.size + t114.size) = False := eq_false (by have h_ := c10; simp only [ByteArray.size_append] at h_; omega)
       replace H := Option.bind_eq_some_iff.mp H; obtain ⟨t115, A110, H⟩ := H; replace H : (if ((t113 ++ a1) ++ t114).size + t115.size ≤ 9223372036854775807 then (some (((t113 ++ a1) ++ t114) ++ t115, none)) else (none)) = some (r1, r2) := H; have A11 := Aside0.mk A110; clear A110
       by_cases c12 : ((t113 ++ a1) ++ t114).size + t115.size ≤ 9223372036854775807
       ·rw [if_pos c12] at H; have c12b0 := eq_true c12
        try (have c12sa0 := c12b0; simp only [ByteArray.size_append, Int.natCast_add] at c12sa0)
        have c12b1 : decide (((t113 ++ a1) ++ t114).size + t115.size ≤ 9223372036854775807) = true := decide_eq_true c12
        try (have c12sa1 := c12b1; simp only [ByteArray.size_append, Int.natCast_add] at c12sa1)
        try have c12b2 : (9223372036854775807 < ((t113 ++ a1) ++ t114).size + t115.size) = False := eq_false (Nat.not_lt.2 c12)
        try have c12sd0 := eq_true (show t113.size + a1.size + t114.size + t115.size ≤ 9223372036854775807 from by have h_ := c12; simp only [ByteArray.size_append] at h_; omega)
        try have c12sd1 : decide (t113.size + a1.size + t114.size + t115.size ≤ 9223372036854775807) = true := decide_eq_true (by have h_ := c12; simp only [ByteArray.size_append] at h_; omega)
        try have c12sd2 : (9223372036854775807 < t113.size + a1.size + t114.size + t115.size) = False := eq_false (by have h_ := c12; simp only [ByteArray.size_append] at h_; omega)
        simp only [Option.some.injEq, Prod.mk.injEq] at H; obtain ⟨rfl, rfl⟩ := H; go_wp2_with (first | ((with_reducible refine gate_callee (f := 43) rfl ?_); refine goesL_ (some 21) rfl rfl Tryz.func43 (by kernel_rfl) rfl #[.int .i64 a0] rfl z6 ?_; (with_reducible refine (mark_head.calls kj2 a0 t113 _ A7.out).mono ?_); rintro e w13 ⟨rfl, hb⟩; refine ⟨_, rfl, ?_⟩; have n0_ := Aside0.mk (below_step z8 hb); clear HB; have HB := n0_; clear n0_; (try clear hb); (try clear hb2); (try clear hk); (try clear hi)) | ((with_reducible refine gate_callee (f := 41) rfl ?_); refine goesL_ (some 27) rfl rfl Tryz.func41 (by kernel_rfl) rfl #[.string (⟨#[0]⟩ : ByteArray), .int .i64 (wrap64 (504 - (a1.size : Int)))] rfl z6 ?_; (with_reducible refine (strings_Repeat.calls (⟨#[0]⟩ : ByteArray) (wrap64 (504 - (a1.size : Int))) t114 _ A9.out).mono ?_); rintro e w14 ⟨rfl, hb⟩; refine ⟨_, rfl, ?_⟩; have n0_ := Aside0.mk (below_step z8 hb); clear HB; have HB := n0_; clear n0_; (try clear hb); (try clear hb2); (try clear hk); (try clear hi)) | ((with_reducible refine gate_callee (f := 44) rfl ?_); refine goesL_ (some 31) rfl rfl Tryz.func44 (by kernel_rfl) rfl #[.string ((t113 ++ a1) ++ t114)] rfl z6 ?_; (with_reducible refine (mark_sumOf.calls kj2 ((t113 ++ a1) ++ t114) t115 _ (Laid.below HL_.out z8) A11.out).mono ?_); rintro e w15 ⟨rfl, hb⟩; refine ⟨_, rfl, ?_⟩; have n0_ := Aside0.mk (below_step z8 hb); clear HB; have HB := n0_; clear n0_; (try clear hb); (try clear hb2); (try clear hk); (try clear hi)))
        go_ret2
        exact ⟨z12, z8⟩
       ·rw [if_neg c12] at H; exact absurd H (by simp)
      ·rw [if_neg c10] at H; exact absurd H (by simp)
     ·rw [if_neg c8] at H; exact absurd H (by simp)
-- @GIVEN lib_out
/-- A number, a text, put behind what there is; none where that isn't as a sector's are. -/
def numO (k : Nat) (n size : Int) (acc : ByteArray) : Option ByteArray := (le_Put.f k n size).bind fun s => if 0 < s.size ∧ acc.size + s.size ≤ 2000 then some (acc ++ s) else none
def textO (s : ByteArray) (size : Nat) (acc : ByteArray) : Option ByteArray := if s.size ≤ size ∧ acc.size + size ≤ 2000 then some (acc ++ (s ++ zerosB (size - s.size))) else none
theorem isEm_false {s : ByteArray} (hn : 0 < s.size) : (false || s.toList.isEmpty) = false := by
  rw [Bool.false_or, Lib.toList_data, List.isEmpty_eq_false_iff]; intro e; have : s.size = 0 := by show s.data.size = 0; rw [← Array.length_toList, e]; rfl
  omega
theorem oNumO (k B g : Nat) (acc acc' : ByteArray) (n size : Int) (w : World) (h : OutIs B g acc false w) (hB : B ≤ w.heap.size) (hs : numO k n size acc = some acc') :
    Calls Tryz.prog 15 #[.pointer (some ⟨g, 0, none⟩), .int .i64 n, .int .i64 size] w fun e w' => e = .returned (.tuple #[]) ∧ OutIs B g acc' false w' ∧ Below B w w' ∧ BKeep g w w' := by
  unfold numO at hs; obtain ⟨s, h1, hs⟩ := Option.bind_eq_some_iff.mp hs
  by_cases hc : 0 < s.size ∧ acc.size + s.size ≤ 2000
  case neg => rw [if_neg hc] at hs; cases hs
  rw [if_pos hc] at hs; obtain rfl := Option.some.inj hs; exact (oNum k B g acc false n size s w h hB h1 (by omega)).mono (by rintro e w' ⟨h2, h3, h4⟩; exact ⟨h2, OutIs.as h3 rfl (isEm_false hc.1), h4⟩)
theorem oTextO (B g : Nat) (acc acc' s : ByteArray) (size : Nat) (z : Int) (w : World) (hz : z = (size : Int)) (h : OutIs B g acc false w) (hB : B ≤ w.heap.size) (hs : textO s size acc = some acc') :
    Calls Tryz.prog 16 #[.pointer (some ⟨g, 0, none⟩), .string s, .int .i64 z] w fun e w' => e = .returned (.tuple #[]) ∧ OutIs B g acc' false w' ∧ Below B w w' ∧ BKeep g w w' := by
  subst hz; unfold textO at hs
  by_cases hc : s.size ≤ size ∧ acc.size + size ≤ 2000
  case neg => rw [if_neg hc] at hs; cases hs
  rw [if_pos hc] at hs; obtain rfl := Option.some.inj hs; have ho : outText acc false s (size : Int) = (acc ++ (s ++ zerosB (size - s.size)), false) := by
    unfold outText; rw [if_neg (by omega), show (((size : Nat) : Int) - (s.size : Int)).toNat = size - s.size by omega]
  exact (oText B g acc false s size w h hB (by omega) (by omega)).mono (by rintro e w' ⟨h2, h3, h4⟩; rw [ho] at h3; exact ⟨h2, h3, h4⟩)
-- @GIVEN page_Put
/-! ### page_Put: by hand -/
def page_Put.l0 (k : Nat) (leaf : Bool) (vals : List ByteArray) (kids : List Int) : List ByteArray → Nat → ByteArray → Option ByteArray
 | [], _, acc => some acc
 | key :: l, i, acc => (numO k (key.size : Int) 1 acc).bind fun b1 =>
  if leaf = true then (if i < vals.length then (numO k ((rdOf ByteArray.empty vals (i : Int)).size : Int) 1 b1).bind fun b2 => (textO key 16 b2).bind fun b3 => (textO (rdOf ByteArray.empty vals (i : Int)) 24 b3).bind fun b4 => page_Put.l0 k leaf vals kids l (i + 1) b4 else none)
  else (if i < kids.length then (numO k (rd kids (i : Int)) 2 b1).bind fun b2 => (numO k 0 1 b2).bind fun b3 => (textO key 16 b3).bind fun b4 => page_Put.l0 k leaf vals kids l (i + 1) b4 else none)
def page_Put.f (k : Nat) (a0_0 : Int) (l0_1 : List ByteArray) (l0_2 : List ByteArray) (l0_3 : List Int) : Option (ByteArray × Option Int) := (page_Right.f k a0_0 l0_1 l0_2 l0_3).bind fun t =>
 if t = true then ((numO k (if 0 < a0_0 then 2 else 1) 1 ⟨#[]⟩).bind fun b1 => (numO k (l0_1.length : Int) 1 b1).bind fun b2 => (numO k a0_0 1 b2).bind fun b3 => (numO k 0 1 b3).bind fun b4 => (page_Put.l0 k (decide (a0_0 ≤ 0)) l0_2 l0_3 l0_1 0 b4).bind fun b => mark_Seal.f k 8 b) else some (⟨#[]⟩, some 1)
set_option maxHeartbeats 16000000 in
set_option maxRecDepth 100000 in
theorem page_Put.calls (k : Nat) (a0_0 : Int) (A0_1 : Option Addr) (c0_1 : Nat) (l0_1 : List ByteArray) (A0_2 : Option Addr) (c0_2 : Nat) (l0_2 : List ByteArray) (A0_3 : Option Addr) (c0_3 : Nat) (l0_3 : List Int) (r1 : ByteArray) (r2 : Option Int) (w : World) (hL_ : Laid w) (hr0_1 : Kd.C Kd.string w A0_1 l0_1.length l0_1) (hc0_1 : l0_1.length ≤ c0_1) (hr0_2 : Kd.C Kd.string w A0_2 l0_2.length l0_2) (hc0_2 : l0_2.length ≤ c0_2) (hr0_3 : Kd.C (Kd.int .i64) w A0_3 l0_3.length l0_3) (hc0_3 : l0_3.length ≤ c0_3) (h : page_Put.f k a0_0 l0_1 l0_2 l0_3 = some (r1, r2)) :
  Calls Tryz.prog 6 #[.agg #[.int .i64 a0_0, .slice A0_1 l0_1.length c0_1, .slice A0_2 l0_2.length c0_2, .slice A0_3 l0_3.length c0_3]] w fun e w' => e = .returned (.tuple #[.string r1, errW r2]) ∧ Below w.heap.size w w' := by
 have HL_ := Aside0.mk hL_; unfold page_Put.f at h; obtain ⟨t, hR, h⟩ := Option.bind_eq_some_iff.mp h; have HRt := Aside0.mk hR; have HB0 := Aside0.mk (below_alloc (Below.refl w.heap.size w) (.cells #[.int .i64 a0_0, .slice A0_1 l0_1.length c0_1, .slice A0_2 l0_2.length c0_2, .slice A0_3 l0_3.length c0_3] 28)); have HX0 := Aside0.mk (heap_alloc_new w (.cells #[.int .i64 a0_0, .slice A0_1 l0_1.length c0_1, .slice A0_2 l0_2.length c0_2, .slice A0_3 l0_3.length c0_3] 28)); have HR1 := Aside0.mk (fun (W : World) (hb : Below w.heap.size w W) => Kd.C_below hr0_1 hb); have HR2 := Aside0.mk (fun (W : World) (hb : Below w.heap.size w W) => Kd.C_below hr0_2 hb); have HR3 := Aside0.mk (fun (W : World) (hb : Below w.heap.size w W) => Kd.C_below hr0_3 hb); have HC1 := Aside0.mk hc0_1; have HC2 := Aside0.mk hc0_2; have HC3 := Aside0.mk hc0_3; have HM1 := Aside0.mk hr0_1.2.1; have HU := Aside0.mk (show (28 : Nat) ≠ 5 by decide); have hu := Tryz.underlying28; clear hL_ hR hr0_1 hc0_1 hr0_2 hc0_2 hr0_3 hc0_3; cases t with
 | false =>
  rw [if_neg (by decide)] at h; obtain ⟨rfl, rfl⟩ := Prod.mk.inj (Option.some.inj h); clear h; go_enter Tryz.func6, Tryz.ntmps6
  go_wp2_with (go_at_call 9; (with_reducible refine (page_Right.calls k a0_0 A0_1 c0_1 l0_1 A0_2 c0_2 l0_2 A0_3 c0_3 l0_3 false _ (HR1.out _ HB0.out) HC1.out (HR2.out _ HB0.out) HC2.out (HR3.out _ HB0.out) HC3.out HRt.out).mono ?_); rintro e w1 ⟨rfl, hb1⟩; have HB1 := Aside0.mk (below_step HB0.out hb1); clear hb1)
  go_ret2
  exact ⟨rfl, HB1.out⟩
 | true =>
  rw [if_pos rfl] at h; obtain ⟨b1, h1, h⟩ := Option.bind_eq_some_iff.mp h; obtain ⟨b2, h2, h⟩ := Option.bind_eq_some_iff.mp h; obtain ⟨b3, h3, h⟩ := Option.bind_eq_some_iff.mp h; obtain ⟨b4, h4, h⟩ := Option.bind_eq_some_iff.mp h; obtain ⟨b, hb, h⟩ := Option.bind_eq_some_iff.mp h; have H2 := Aside0.mk h2; have H3 := Aside0.mk h3; have H4 := Aside0.mk h4; have HM := Aside0.mk h; clear h2 h3 h4 h
  by_cases hlv : 0 < a0_0
  ·rw [if_pos hlv] at h1; rw [show decide (a0_0 ≤ 0) = false from decide_eq_false (by omega)] at hb; have dlv : decide (0 < a0_0) = true := decide_eq_true hlv; have H1 := Aside0.mk h1; have HP := Aside0.mk hb; clear h1 hb hlv; go_enter Tryz.func6, Tryz.ntmps6
   go_wp2_with (first
    | (go_at_call 9; (with_reducible refine (page_Right.calls k a0_0 A0_1 c0_1 l0_1 A0_2 c0_2 l0_2 A0_3 c0_3 l0_3 true _ (HR1.out _ HB0.out) HC1.out (HR2.out _ HB0.out) HC2.out (HR3.out _ HB0.out) HC3.out HRt.out).mono ?_); rintro e w1 ⟨rfl, hb1⟩; have HB1 := Aside0.mk (below_step HB0.out hb1); have HX1 := Aside0.mk (blk_below HX0.out hb1); have HG1 := Aside0.mk (blk_lt HX1.out); have HO2 := Aside0.mk (OutIs.new (B := w.heap.size) (heap_alloc_new w1 (.cells #[.pointer none, .slice none 0 0, .bool false] 54)) HB1.out.size); have HX2 := Aside0.mk (blk_alloc HX1.out (.cells #[.pointer none, .slice none 0 0, .bool false] 54)); have HB2 := Aside0.mk (below_alloc HB1.out (.cells #[.pointer none, .slice none 0 0, .bool false] 54)); have hx0 := (blk_cell HX2.out 0).trans rfl; have hx1 := (blk_cell HX2.out 1).trans rfl; have hx2 := (blk_cell HX2.out 2).trans rfl; have hx3 := (blk_cell HX2.out 3).trans rfl; clear hb1 HB1 HX1)
    | (go_at_call 15; (with_reducible refine (oNumO k w.heap.size w1.heap.size ⟨#[]⟩ b1 2 1 _ HO2.out HB2.out.size H1.out).mono ?_); rintro e w3 ⟨rfl, ho_, hb_, hk_⟩; have HO3 := Aside0.mk ho_; have HX3 := Aside0.mk (hk_ _ _ _ (Nat.ne_of_lt HG1.out) HU.out HX2.out); have HB3 := Aside0.mk (HB2.out.trans hb_); have hx0 := (blk_cell HX3.out 0).trans rfl; have hx1 := (blk_cell HX3.out 1).trans rfl; have hx2 := (blk_cell HX3.out 2).trans rfl; have hx3 := (blk_cell HX3.out 3).trans rfl; clear ho_ hb_ hk_)
    | (go_at_call 15; (with_reducible refine (oNumO k w.heap.size w1.heap.size b1 b2 (l0_1.length : Int) 1 _ HO3.out HB3.out.size H2.out).mono ?_); rintro e w4 ⟨rfl, ho_, hb_, hk_⟩; have HO4 := Aside0.mk ho_; have HX4 := Aside0.mk (hk_ _ _ _ (Nat.ne_of_lt HG1.out) HU.out HX3.out); have HB4 := Aside0.mk (HB3.out.trans hb_); have hx0 := (blk_cell HX4.out 0).trans rfl; have hx1 := (blk_cell HX4.out 1).trans rfl; have hx2 := (blk_cell HX4.out 2).trans rfl; have hx3 := (blk_cell HX4.out 3).trans rfl; clear ho_ hb_ hk_)
    | (go_at_call 15; (with_reducible refine (oNumO k w.heap.size w1.heap.size b2 b3 a0_0 1 _ HO4.out HB4.out.size H3.out).mono ?_); rintro e w5 ⟨rfl, ho_, hb_, hk_⟩; have HO5 := Aside0.mk ho_; have HX5 := Aside0.mk (hk_ _ _ _ (Nat.ne_of_lt HG1.out) HU.out HX4.out); have HB5 := Aside0.mk (HB4.out.trans hb_); have hx0 := (blk_cell HX5.out 0).trans rfl; have hx1 := (blk_cell HX5.out 1).trans rfl; have hx2 := (blk_cell HX5.out 2).trans rfl; have hx3 := (blk_cell HX5.out 3).trans rfl; clear ho_ hb_ hk_)
    | (go_at_call 15; (with_reducible refine (oNumO k w.heap.size w1.heap.size b3 b4 0 1 _ HO5.out HB5.out.size H4.out).mono ?_); rintro e w6 ⟨rfl, ho_, hb_, hk_⟩; have HO6 := Aside0.mk ho_; have HX6 := Aside0.mk (hk_ _ _ _ (Nat.ne_of_lt HG1.out) HU.out HX5.out); have HB6 := Aside0.mk (HB5.out.trans hb_); have hx0 := (blk_cell HX6.out 0).trans rfl; have hx1 := (blk_cell HX6.out 1).trans rfl; have hx2 := (blk_cell HX6.out 2).trans rfl; have hx3 := (blk_cell HX6.out 3).trans rfl; clear ho_ hb_ hk_))
   clear dlv hx0 hx1 hx2 hx3; go_loopg [6, 7, 30] (l0_1.length + 1) (fun kq v6 v7 v30 w' => ∃ (i : Nat) (acc : ByteArray), v30 = .int .i64 (i : Int) ∧ Aside0 (i ≤ l0_1.length ∧ kq = l0_1.length - i + 1) ∧ Aside0 (page_Put.l0 k false l0_2 l0_3 (l0_1.drop i) i acc = some b) ∧ Aside0 (OutIs w.heap.size w1.heap.size acc false w') ∧ Aside0 (w'.heap[w.heap.size]? = some (.cells #[.int .i64 a0_0, .slice A0_1 l0_1.length c0_1, .slice A0_2 l0_2.length c0_2, .slice A0_3 l0_3.length c0_3] 28 (0, 0))) ∧ Aside0 (Below w.heap.size w w'))
   case atStart => exact ⟨0, _, rfl, ⟨by omega, by omega⟩, by rw [List.drop_zero]; exact HP, HO6, HX6, HB6⟩
   case round =>
    clear HP HO2 HX2 HB2 HO3 HX3 HB3 HO4 HX4 HB4 HO5 HX5 HB5 HO6 HX6 HB6; obtain ⟨i, acc, rfl, HI, HP, HO6, HX6, HB6⟩ := hrel
    by_cases c1 : i < l0_1.length
    ·have e1 : decide ((i : Int) < (l0_1.length : Int)) = true := decide_eq_true (by omega); have p1 := eq_true (show (0 : Int) ≤ (i : Int) by omega); have p2 := eq_true (show (i : Int) < (l0_1.length : Int) by omega); have p3 := eq_true c1; obtain ⟨ad, rfl, hk0⟩ := Kd.at_string (HR1.out wr HB6.out) (i : Int) (by omega) (by omega); rw [show ((i : Int)).toNat = i from rfl] at hk0; have HI1 := Aside0.mk (show wrap64 ((i : Int) + 1) = ((i + 1 : Nat) : Int) by have := HM1.out; unfold maxLen at this; unfold wrap64; omega); have H := HP.out; rw [rdOf_drop ByteArray.empty l0_1 i c1, page_Put.l0] at H; clear HP; generalize rdOf ByteArray.empty l0_1 (i : Int) = key at *; obtain ⟨d1, g1, H⟩ := Option.bind_eq_some_iff.mp H; have G1 := Aside0.mk g1; clear g1; rw [if_neg (by decide)] at H
     by_cases hq : i < l0_3.length
     case neg => rw [if_neg hq] at H; cases H
     rw [if_pos hq] at H; have HQ := Aside0.mk hq; have s1 := eq_true (show (i : Int) < (l0_3.length : Int) by omega); have s2 := eq_true hq; obtain ⟨d2, g2, H⟩ := Option.bind_eq_some_iff.mp H; obtain ⟨d3, g3, H⟩ := Option.bind_eq_some_iff.mp H; obtain ⟨d4, g4, H⟩ := Option.bind_eq_some_iff.mp H; have G2 := Aside0.mk g2; have G3 := Aside0.mk g3; have G4 := Aside0.mk g4; have H' := Aside0.mk H; obtain ⟨adk, ek_, _⟩ := Kd.at_int (HR3.out wr HB6.out) (i : Int) (by omega) (by omega); subst ek_; clear g2 g3 g4 H hq; have hx0 := (blk_cell HX6.out 0).trans rfl; have hx1 := (blk_cell HX6.out 1).trans rfl; have hx2 := (blk_cell HX6.out 2).trans rfl; have hx3 := (blk_cell HX6.out 3).trans rfl
     go_wp2_with (first
      | (go_at_call 15; (with_reducible refine (oNumO k w.heap.size w1.heap.size acc d1 (key.size : Int) 1 _ HO6.out HB6.out.size G1.out).mono ?_); rintro e w7 ⟨rfl, ho_, hb_, hk_⟩; have HO7 := Aside0.mk ho_; have HX7 := Aside0.mk (hk_ _ _ _ (Nat.ne_of_lt HG1.out) HU.out HX6.out); have HB7 := Aside0.mk (HB6.out.trans hb_); have hx0 := (blk_cell HX7.out 0).trans rfl; have hx1 := (blk_cell HX7.out 1).trans rfl; have hx2 := (blk_cell HX7.out 2).trans rfl; have hx3 := (blk_cell HX7.out 3).trans rfl; clear ho_ hb_ hk_; obtain ⟨ak_, ek_, hv_⟩ := Kd.at_int (HR3.out _ HB7.out) (i : Int) (by omega) (by have := HQ.out; omega); (rw [show ((i : Int)).toNat = i from rfl] at hv_); injection ek_ with ek_; subst ek_)
      | (go_at_call 15; (with_reducible refine (oNumO k w.heap.size w1.heap.size d1 d2 (rd l0_3 (i : Int)) 2 _ HO7.out HB7.out.size G2.out).mono ?_); rintro e w8 ⟨rfl, ho_, hb_, hk_⟩; have HO8 := Aside0.mk ho_; have HX8 := Aside0.mk (hk_ _ _ _ (Nat.ne_of_lt HG1.out) HU.out HX7.out); have HB8 := Aside0.mk (HB7.out.trans hb_); have hx0 := (blk_cell HX8.out 0).trans rfl; have hx1 := (blk_cell HX8.out 1).trans rfl; have hx2 := (blk_cell HX8.out 2).trans rfl; have hx3 := (blk_cell HX8.out 3).trans rfl; clear ho_ hb_ hk_)
      | (go_at_call 15; (with_reducible refine (oNumO k w.heap.size w1.heap.size d2 d3 0 1 _ HO8.out HB8.out.size G3.out).mono ?_); rintro e w9 ⟨rfl, ho_, hb_, hk_⟩; have HO9 := Aside0.mk ho_; have HX9 := Aside0.mk (hk_ _ _ _ (Nat.ne_of_lt HG1.out) HU.out HX8.out); have HB9 := Aside0.mk (HB8.out.trans hb_); have hx0 := (blk_cell HX9.out 0).trans rfl; have hx1 := (blk_cell HX9.out 1).trans rfl; have hx2 := (blk_cell HX9.out 2).trans rfl; have hx3 := (blk_cell HX9.out 3).trans rfl; clear ho_ hb_ hk_)
      | (go_at_call 16; (with_reducible refine (oTextO w.heap.size w1.heap.size d3 d4 key 16 16 _ rfl HO9.out HB9.out.size G4.out).mono ?_); rintro e w10 ⟨rfl, ho_, hb_, hk_⟩; have HO10 := Aside0.mk ho_; have HX10 := Aside0.mk (hk_ _ _ _ (Nat.ne_of_lt HG1.out) HU.out HX9.out); have HB10 := Aside0.mk (HB9.out.trans hb_); have hx0 := (blk_cell HX10.out 0).trans rfl; have hx1 := (blk_cell HX10.out 1).trans rfl; have hx2 := (blk_cell HX10.out 2).trans rfl; have hx3 := (blk_cell HX10.out 3).trans rfl; clear ho_ hb_ hk_))
     go_roundg (l0_1.length - i)
     case measure => have := HI.out; omega
     case rel => exact ⟨i + 1, _, z55, ⟨by omega, by omega⟩, H', HO10, HX10, HB10⟩
    ·have e1 : decide ((i : Int) < (l0_1.length : Int)) = false := decide_eq_false (by omega); have H := HP.out; rw [List.drop_eq_nil_of_le (by omega), page_Put.l0] at H; obtain rfl := Option.some.inj H; clear H HP
     go_wp2_with (first
      | (go_at_call 17; (with_reducible refine (oString w.heap.size w1.heap.size acc false _ HO6.out).mono ?_); rintro e w8 ⟨rfl, hb8⟩; have HB8 := Aside0.mk (HB6.out.trans hb8); have HO8 := Aside0.mk (show outString acc false = (acc, none) from rfl); simp only [HO8.out, errW_none]; clear hb8)
      | (go_at_call 18; (with_reducible refine (mark_Seal.calls k 8 acc r1 r2 _ (Laid.below HL_.out HB8.out) HM.out).mono ?_); rintro e w9 ⟨rfl, hb9⟩; have HB9 := Aside0.mk (below_step HB8.out hb9); clear hb9))
     go_ret2
     exact ⟨rfl, HB9.out⟩
  ·rw [if_neg hlv] at h1; rw [show decide (a0_0 ≤ 0) = true from decide_eq_true (by omega)] at hb; have dlv : decide (0 < a0_0) = false := decide_eq_false hlv; have H1 := Aside0.mk h1; have HP := Aside0.mk hb; clear h1 hb hlv; go_enter Tryz.func6, Tryz.ntmps6
   go_wp2_with (first
    | (go_at_call 9; (with_reducible refine (page_Right.calls k a0_0 A0_1 c0_1 l0_1 A0_2 c0_2 l0_2 A0_3 c0_3 l0_3 true _ (HR1.out _ HB0.out) HC1.out (HR2.out _ HB0.out) HC2.out (HR3.out _ HB0.out) HC3.out HRt.out).mono ?_); rintro e w1 ⟨rfl, hb1⟩; have HB1 := Aside0.mk (below_step HB0.out hb1); have HX1 := Aside0.mk (blk_below HX0.out hb1); have HG1 := Aside0.mk (blk_lt HX1.out); have HO2 := Aside0.mk (OutIs.new (B := w.heap.size) (heap_alloc_new w1 (.cells #[.pointer none, .slice none 0 0, .bool false] 54)) HB1.out.size); have HX2 := Aside0.mk (blk_alloc HX1.out (.cells #[.pointer none, .slice none 0 0, .bool false] 54)); have HB2 := Aside0.mk (below_alloc HB1.out (.cells #[.pointer none, .slice none 0 0, .bool false] 54)); have hx0 := (blk_cell HX2.out 0).trans rfl; have hx1 := (blk_cell HX2.out 1).trans rfl; have hx2 := (blk_cell HX2.out 2).trans rfl; have hx3 := (blk_cell HX2.out 3).trans rfl; clear hb1 HB1 HX1)
    | (go_at_call 15; (with_reducible refine (oNumO k w.heap.size w1.heap.size ⟨#[]⟩ b1 1 1 _ HO2.out HB2.out.size H1.out).mono ?_); rintro e w3 ⟨rfl, ho_, hb_, hk_⟩; have HO3 := Aside0.mk ho_; have HX3 := Aside0.mk (hk_ _ _ _ (Nat.ne_of_lt HG1.out) HU.out HX2.out); have HB3 := Aside0.mk (HB2.out.trans hb_); have hx0 := (blk_cell HX3.out 0).trans rfl; have hx1 := (blk_cell HX3.out 1).trans rfl; have hx2 := (blk_cell HX3.out 2).trans rfl; have hx3 := (blk_cell HX3.out 3).trans rfl; clear ho_ hb_ hk_)
    | (go_at_call 15; (with_reducible refine (oNumO k w.heap.size w1.heap.size b1 b2 (l0_1.length : Int) 1 _ HO3.out HB3.out.size H2.out).mono ?_); rintro e w4 ⟨rfl, ho_, hb_, hk_⟩; have HO4 := Aside0.mk ho_; have HX4 := Aside0.mk (hk_ _ _ _ (Nat.ne_of_lt HG1.out) HU.out HX3.out); have HB4 := Aside0.mk (HB3.out.trans hb_); have hx0 := (blk_cell HX4.out 0).trans rfl; have hx1 := (blk_cell HX4.out 1).trans rfl; have hx2 := (blk_cell HX4.out 2).trans rfl; have hx3 := (blk_cell HX4.out 3).trans rfl; clear ho_ hb_ hk_)
    | (go_at_call 15; (with_reducible refine (oNumO k w.heap.size w1.heap.size b2 b3 a0_0 1 _ HO4.out HB4.out.size H3.out).mono ?_); rintro e w5 ⟨rfl, ho_, hb_, hk_⟩; have HO5 := Aside0.mk ho_; have HX5 := Aside0.mk (hk_ _ _ _ (Nat.ne_of_lt HG1.out) HU.out HX4.out); have HB5 := Aside0.mk (HB4.out.trans hb_); have hx0 := (blk_cell HX5.out 0).trans rfl; have hx1 := (blk_cell HX5.out 1).trans rfl; have hx2 := (blk_cell HX5.out 2).trans rfl; have hx3 := (blk_cell HX5.out 3).trans rfl; clear ho_ hb_ hk_)
    | (go_at_call 15; (with_reducible refine (oNumO k w.heap.size w1.heap.size b3 b4 0 1 _ HO5.out HB5.out.size H4.out).mono ?_); rintro e w6 ⟨rfl, ho_, hb_, hk_⟩; have HO6 := Aside0.mk ho_; have HX6 := Aside0.mk (hk_ _ _ _ (Nat.ne_of_lt HG1.out) HU.out HX5.out); have HB6 := Aside0.mk (HB5.out.trans hb_); have hx0 := (blk_cell HX6.out 0).trans rfl; have hx1 := (blk_cell HX6.out 1).trans rfl; have hx2 := (blk_cell HX6.out 2).trans rfl; have hx3 := (blk_cell HX6.out 3).trans rfl; clear ho_ hb_ hk_))
   clear dlv hx0 hx1 hx2 hx3; go_loopg [6, 7, 30] (l0_1.length + 1) (fun kq v6 v7 v30 w' => ∃ (i : Nat) (acc : ByteArray), v30 = .int .i64 (i : Int) ∧ Aside0 (i ≤ l0_1.length ∧ kq = l0_1.length - i + 1) ∧ Aside0 (page_Put.l0 k true l0_2 l0_3 (l0_1.drop i) i acc = some b) ∧ Aside0 (OutIs w.heap.size w1.heap.size acc false w') ∧ Aside0 (w'.heap[w.heap.size]? = some (.cells #[.int .i64 a0_0, .slice A0_1 l0_1.length c0_1, .slice A0_2 l0_2.length c0_2, .slice A0_3 l0_3.length c0_3] 28 (0, 0))) ∧ Aside0 (Below w.heap.size w w'))
   case atStart => exact ⟨0, _, rfl, ⟨by omega, by omega⟩, by rw [List.drop_zero]; exact HP, HO6, HX6, HB6⟩
   case round =>
    clear HP HO2 HX2 HB2 HO3 HX3 HB3 HO4 HX4 HB4 HO5 HX5 HB5 HO6 HX6 HB6; obtain ⟨i, acc, rfl, HI, HP, HO6, HX6, HB6⟩ := hrel
    by_cases c1 : i < l0_1.length
    ·have e1 : decide ((i : Int) < (l0_1.length : Int)) = true := decide_eq_true (by omega); have p1 := eq_true (show (0 : Int) ≤ (i : Int) by omega); have p2 := eq_true (show (i : Int) < (l0_1.length : Int) by omega); have p3 := eq_true c1; obtain ⟨ad, rfl, hk0⟩ := Kd.at_string (HR1.out wr HB6.out) (i : Int) (by omega) (by omega); rw [show ((i : Int)).toNat = i from rfl] at hk0; have HI1 := Aside0.mk (show wrap64 ((i : Int) + 1) = ((i + 1 : Nat) : Int) by have := HM1.out; unfold maxLen at this; unfold wrap64; omega); have H := HP.out; rw [rdOf_drop ByteArray.empty l0_1 i c1, page_Put.l0] at H; clear HP; generalize rdOf ByteArray.empty l0_1 (i : Int) = key at *; obtain ⟨d1, g1, H⟩ := Option.bind_eq_some_iff.mp H; have G1 := Aside0.mk g1; clear g1; rw [if_pos rfl] at H
     by_cases hq : i < l0_2.length
     case neg => rw [if_neg hq] at H; cases H
     rw [if_pos hq] at H; have HQ := Aside0.mk hq; have s1 := eq_true (show (i : Int) < (l0_2.length : Int) by omega); have s2 := eq_true hq; obtain ⟨d2, g2, H⟩ := Option.bind_eq_some_iff.mp H; obtain ⟨d3, g3, H⟩ := Option.bind_eq_some_iff.mp H; obtain ⟨d4, g4, H⟩ := Option.bind_eq_some_iff.mp H; have G2 := Aside0.mk g2; have G3 := Aside0.mk g3; have G4 := Aside0.mk g4; have H' := Aside0.mk H; obtain ⟨adv, ev_, _⟩ := Kd.at_string (HR2.out wr HB6.out) (i : Int) (by omega) (by omega); subst ev_; clear g2 g3 g4 H hq; have hx0 := (blk_cell HX6.out 0).trans rfl; have hx1 := (blk_cell HX6.out 1).trans rfl; have hx2 := (blk_cell HX6.out 2).trans rfl; have hx3 := (blk_cell HX6.out 3).trans rfl
     go_wp2_with (first
      | (go_at_call 15; (with_reducible refine (oNumO k w.heap.size w1.heap.size acc d1 (key.size : Int) 1 _ HO6.out HB6.out.size G1.out).mono ?_); rintro e w7 ⟨rfl, ho_, hb_, hk_⟩; have HO7 := Aside0.mk ho_; have HX7 := Aside0.mk (hk_ _ _ _ (Nat.ne_of_lt HG1.out) HU.out HX6.out); have HB7 := Aside0.mk (HB6.out.trans hb_); have hx0 := (blk_cell HX7.out 0).trans rfl; have hx1 := (blk_cell HX7.out 1).trans rfl; have hx2 := (blk_cell HX7.out 2).trans rfl; have hx3 := (blk_cell HX7.out 3).trans rfl; clear ho_ hb_ hk_; obtain ⟨av_, ev_, hv_⟩ := Kd.at_string (HR2.out _ HB7.out) (i : Int) (by omega) (by have := HQ.out; omega); (rw [show ((i : Int)).toNat = i from rfl] at hv_); injection ev_ with ev_; subst ev_)
      | (go_at_call 15; (with_reducible refine (oNumO k w.heap.size w1.heap.size d1 d2 ((rdOf ByteArray.empty l0_2 (i : Int)).size : Int) 1 _ HO7.out HB7.out.size G2.out).mono ?_); rintro e w8 ⟨rfl, ho_, hb_, hk_⟩; have HO8 := Aside0.mk ho_; have HX8 := Aside0.mk (hk_ _ _ _ (Nat.ne_of_lt HG1.out) HU.out HX7.out); have HB8 := Aside0.mk (HB7.out.trans hb_); have hx0 := (blk_cell HX8.out 0).trans rfl; have hx1 := (blk_cell HX8.out 1).trans rfl; have hx2 := (blk_cell HX8.out 2).trans rfl; have hx3 := (blk_cell HX8.out 3).trans rfl; clear ho_ hb_ hk_; clear hv_)
      | (go_at_call 16; (with_reducible refine (oTextO w.heap.size w1.heap.size d2 d3 key 16 16 _ rfl HO8.out HB8.out.size G3.out).mono ?_); rintro e w9 ⟨rfl, ho_, hb_, hk_⟩; have HO9 := Aside0.mk ho_; have HX9 := Aside0.mk (hk_ _ _ _ (Nat.ne_of_lt HG1.out) HU.out HX8.out); have HB9 := Aside0.mk (HB8.out.trans hb_); have hx0 := (blk_cell HX9.out 0).trans rfl; have hx1 := (blk_cell HX9.out 1).trans rfl; have hx2 := (blk_cell HX9.out 2).trans rfl; have hx3 := (blk_cell HX9.out 3).trans rfl; clear ho_ hb_ hk_; obtain ⟨av_, ev_, hv_⟩ := Kd.at_string (HR2.out _ HB9.out) (i : Int) (by omega) (by have := HQ.out; omega); (rw [show ((i : Int)).toNat = i from rfl] at hv_); injection ev_ with ev_; subst ev_)
      | (go_at_call 16; (with_reducible refine (oTextO w.heap.size w1.heap.size d3 d4 (rdOf ByteArray.empty l0_2 (i : Int)) 24 24 _ rfl HO9.out HB9.out.size G4.out).mono ?_); rintro e w10 ⟨rfl, ho_, hb_, hk_⟩; have HO10 := Aside0.mk ho_; have HX10 := Aside0.mk (hk_ _ _ _ (Nat.ne_of_lt HG1.out) HU.out HX9.out); have HB10 := Aside0.mk (HB9.out.trans hb_); have hx0 := (blk_cell HX10.out 0).trans rfl; have hx1 := (blk_cell HX10.out 1).trans rfl; have hx2 := (blk_cell HX10.out 2).trans rfl; have hx3 := (blk_cell HX10.out 3).trans rfl; clear ho_ hb_ hk_))
     go_roundg (l0_1.length - i)
     case measure => have := HI.out; omega
     case rel => exact ⟨i + 1, _, z55, ⟨by omega, by omega⟩, H', HO10, HX10, HB10⟩
    ·have e1 : decide ((i : Int) < (l0_1.length : Int)) = false := decide_eq_false (by omega); have H := HP.out; rw [List.drop_eq_nil_of_le (by omega), page_Put.l0] at H; obtain rfl := Option.some.inj H; clear H HP
     go_wp2_with (first
      | (go_at_call 17; (with_reducible refine (oString w.heap.size w1.heap.size acc false _ HO6.out).mono ?_); rintro e w8 ⟨rfl, hb8⟩; have HB8 := Aside0.mk (HB6.out.trans hb8); have HO8 := Aside0.mk (show outString acc false = (acc, none) from rfl); simp only [HO8.out, errW_none]; clear hb8)
      | (go_at_call 18; (with_reducible refine (mark_Seal.calls k 8 acc r1 r2 _ (Laid.below HL_.out HB8.out) HM.out).mono ?_); rintro e w9 ⟨rfl, hb9⟩; have HB9 := Aside0.mk (below_step HB8.out hb9); clear hb9))
     go_ret2
     exact ⟨rfl, HB9.out⟩
section
open Bool renaming true → T, false → F

/-! ### mark_Open: function 29 -/
def mark_Open.j0 : Nat → ByteArray → Bool → Option (ByteArray × Option Int)
 | 0, _, _ => none
 | k + 1, x1, x24 => if x24 = true then (some ((⟨#[]⟩ : ByteArray), some 4)) else (if 508 ≤ (x1.size : Int) then (if 0 ≤ 508 then ((mark_sumOf.f k (x1.extract 0 508)).bind fun t117 => (if (x1.extract 508 x1.size).toList = t117.toList then (if 4 ≤ 508 then (some (x1.extract 4 508, none)) else (none)) else (some ((⟨#[]⟩ : ByteArray), some 5)))) else (none)) else (none))
def mark_Open.f (k : Nat) (a0 : Int) (a1 : ByteArray) : Option (ByteArray × Option Int) := if (a1.size : Int) = 512 then (if a0 < 1 then (mark_Open.j0 k a1 true) else (if a0 > 255 then (mark_Open.j0 k a1 true) else (if 0 ≤ 4 then (if 4 ≤ (a1.size : Int) then ((mark_head.f k a0).bind fun t116 => (mark_Open.j0 k a1 ((a1.extract 0 4).toList != t116.toList))) else (none)) else (none)))) else (mark_Open.j0 k a1 true)
def mark_Open.T1 : Bool × List (List Nat × List Nat) := (true, [([], []), ([0], [0]), ([1], [1]), ([2], [2]), ([3], [3]), ([4, 3], [3, 4]), ([3, 5], [3, 5]), ([6, 3], [6]), ([7], [7]), ([8, 7], [7, 8]), ([7, 9], [7, 9]), ([10, 7], [10]), ([11], [11]), ([12, 11], [11, 12]), ([11], [11]), ([14, 11, 11], [11, 14]), ([13, 15, 11], [11, 13, 15]), ([11, 16], [11, 16])])
def mark_Open.B1 : List Nat := [0, 1, 3, 7, 15, 31, 63, 127, 255, 511, 1023, 2047, 4095, 8191, 4095, 20479, 65535, 131071]
theorem mark_Open.tab1 : rtab .any (opsOf Tryz.f29 1) = mark_Open.T1 := by kernel_rfl
theorem mark_Open.bits1 : waitsOk mark_Open.T1.2 mark_Open.B1 = true := by kernel_rfl
def mark_Open.T4 : Bool × List (List Nat × List Nat) := (true, [([], []), ([], []), ([0, 1], [0, 1]), ([], []), ([], []), ([3, 4], [3, 4]), ([5], [5]), ([2, 6], [2, 6])])
def mark_Open.B4 : List Nat := [0, 0, 3, 0, 0, 24, 56, 127]
theorem mark_Open.tab4 : rtab .any (opsOf Tryz.f29 4) = mark_Open.T4 := by kernel_rfl
theorem mark_Open.bits4 : waitsOk mark_Open.T4.2 mark_Open.B4 = true := by kernel_rfl
open mark_Open renaming j0 → Wj0
set_option maxHeartbeats 8000000 in
set_option maxRecDepth 100000 in
theorem mark_Open.calls (k : Nat) (a0 : Int) (a1 : ByteArray) (r1 : ByteArray) (r2 : Option Int) (w : World) (hL_ : Laid w) (h : mark_Open.f k a0 a1 = some (r1, r2)) :
  Calls Tryz.prog 29 #[.int .i64 a0, .string a1] w fun e w' => e = .returned (.tuple #[.string r1, errW r2]) ∧ Below w.heap.size w w' := by
 have HL_ := A0k hL_; clear hL_; have hu33 := Tryz.underlying33; have hu48 := Tryz.underlying48; have HB := A0k (Below.refl w.heap.size w); have H : (if (a1.size : Int) = 512 then (if a0 < 1 then (Wj0 k a1 true) else (if a0 > 255 then (Wj0 k a1 true) else (if 0 ≤ 4 then (if 4 ≤ (a1.size : Int) then ((mark_head.f k a0).bind fun t116 => (Wj0 k a1 ((a1.extract 0 4).toList != t116.toList))) else (none)) else (none)))) else (Wj0 k a1 true)) = some (r1, r2) := h; clear h; have HC3 := A0k H; clear H; go_enter Tryz.func29, Tryz.ntmps29
 go_upto_region 1 with (fail)
 go_cut [24] (fun v24 wc => ∃ (kq : Nat) (x24_2 : Bool), v24 = .bool x24_2 ∧ Aside0 (Wj0 kq a1 x24_2 = some (r1, r2)) ∧ Aside0 (kq ≤ k) ∧ Aside0 (Below w.heap.size w wc))
 case first =>
  have H := HC3.out; clear HC3
  by_cases c4 : (a1.size : Int) = 512
  ·rw [if_pos c4] at H; have c4b0 : ((a1.size : Int) == 512) = true := beq_iff_eq.mpr c4; have c4b1 : ((a1.size : Int) != 512) = false := bne_eq_false_iff_eq.mpr c4; clear c4
   (first | rw [c4b0] | (simp only [i64_w, i32_w]; rw [c4b0]) | skip)
   by_cases c5 : a0 < 1
   ·rw [if_pos c5] at H; have c5b0 : decide (a0 < 1) = true := decide_eq_true c5; clear c5; have H' := A0k H; clear H
    try go_wp2
    have n0_ := A0k (pD HB.out); clear HB; have HB := n0_; clear n0_; refine start_ (n := 18) (S := fun w' => True) (ds := []) #[F,F,F,F,F,F,F,F,F,F,F,F,F,F,F,F,F,F] (by kernel_rfl) rfl rfl trivial (fun hHeld => ?_); refine with_tabW mark_Open.tab1 mark_Open.bits1 (fun HT_ HW_ => ?_); generalize w.drew = w6 at HB hHeld ⊢; refine zp 0 7 #[T,F,F,F,F,F,F,F,F,F,F,F,F,F,F,F,F,F] ?_
    refine zp 1 8 #[T,T,F,F,F,F,F,F,F,F,F,F,F,F,F,F,F,F] ?_
    refine zp 2 9 #[T,T,T,F,F,F,F,F,F,F,F,F,F,F,F,F,F,F] ?_
    refine zp 3 10 #[T,T,T,T,F,F,F,F,F,F,F,F,F,F,F,F,F,F] ?_
    refine zp 4 11 #[T,T,T,T,T,F,F,F,F,F,F,F,F,F,F,F,F,F] ?_
    refine zp 5 12 #[T,T,T,T,T,T,F,F,F,F,F,F,F,F,F,F,F,F] ?_
    refine zp 6 13 #[T,T,T,T,T,T,T,F,F,F,F,F,F,F,F,F,F,F] ?_
    refine zp 7 14 #[T,T,T,T,T,T,T,T,F,F,F,F,F,F,F,F,F,F] ?_
    refine zu 8 15 #[T,T,T,T,T,T,T,T,T,F,F,F,F,F,F,F,F,F] ?_
    refine zu 9 16 #[T,T,T,T,T,T,T,T,T,T,F,F,F,F,F,F,F,F] ?_
    refine zp 10 17 #[T,T,T,T,T,T,T,T,T,T,T,F,F,F,F,F,F,F] ?_
    refine zp 11 18 #[T,T,T,T,T,T,T,T,T,T,T,T,F,F,F,F,F,F] ?_
    refine zu 12 19 #[T,T,T,T,T,T,T,T,T,T,T,T,T,F,F,F,F,F] ?_
    refine zu 13 20 #[T,T,T,T,T,T,T,T,T,T,T,T,T,T,F,F,F,F] ?_
    refine zu 14 21 #[T,T,T,T,T,T,T,T,T,T,T,T,T,T,T,F,F,F] ?_
    refine zu 15 22 #[T,T,T,T,T,T,T,T,T,T,T,T,T,T,T,T,F,F] ?_
    refine zu 16 23 #[T,T,T,T,T,T,T,T,T,T,T,T,T,T,T,T,T,F] ?_
    refine zp 17 24 #[T,T,T,T,T,T,T,T,T,T,T,T,T,T,T,T,T,T] ?_
    refine done_ (done_of HT_.out (by kernel_rfl)) ?_
    try go_wp2
    go_meet
    case rel => exact ⟨_, (true), z13, H', ⟨z31⟩, ⟨z18⟩⟩
   ·rw [if_neg c5] at H; have c5b0 : decide (a0 < 1) = false := decide_eq_false c5; clear c5
    by_cases c7 : a0 > 255
    ·rw [if_pos c7] at H; have c7b0 : decide (255 < a0) = true := decide_eq_true c7; clear c7; have H' := A0k H; clear H
     try go_wp2
     have n0_ := A0k (pD HB.out); clear HB; have HB := n0_; clear n0_; refine start_ (n := 18) (S := fun w' => True) (ds := []) #[F,F,F,F,F,F,F,F,F,F,F,F,F,F,F,F,F,F] (by kernel_rfl) rfl rfl trivial (fun hHeld => ?_); refine with_tabW mark_Open.tab1 mark_Open.bits1 (fun HT_ HW_ => ?_); generalize w.drew = w8 at HB hHeld ⊢; refine zp 0 7 #[T,F,F,F,F,F,F,F,F,F,F,F,F,F,F,F,F,F] ?_
     refine zp 1 8 #[T,T,F,F,F,F,F,F,F,F,F,F,F,F,F,F,F,F] ?_
     refine zp 2 9 #[T,T,T,F,F,F,F,F,F,F,F,F,F,F,F,F,F,F] ?_
     refine zp 3 10 #[T,T,T,T,F,F,F,F,F,F,F,F,F,F,F,F,F,F] ?_
     refine zp 4 11 #[T,T,T,T,T,F,F,F,F,F,F,F,F,F,F,F,F,F] ?_
     refine zp 5 12 #[T,T,T,T,T,T,F,F,F,F,F,F,F,F,F,F,F,F] ?_
     refine zp 6 13 #[T,T,T,T,T,T,T,F,F,F,F,F,F,F,F,F,F,F] ?_
     refine zp 7 14 #[T,T,T,T,T,T,T,T,F,F,F,F,F,F,F,F,F,F] ?_
     refine zp 8 15 #[T,T,T,T,T,T,T,T,T,F,F,F,F,F,F,F,F,F] ?_
     refine zp 9 16 #[T,T,T,T,T,T,T,T,T,T,F,F,F,F,F,F,F,F] ?_
     refine zp 10 17 #[T,T,T,T,T,T,T,T,T,T,T,F,F,F,F,F,F,F] ?_
     refine zp 11 18 #[T,T,T,T,T,T,T,T,T,T,T,T,F,F,F,F,F,F] ?_
     refine zu 12 19 #[T,T,T,T,T,T,T,T,T,T,T,T,T,F,F,F,F,F] ?_
     refine zu 13 20 #[T,T,T,T,T,T,T,T,T,T,T,T,T,T,F,F,F,F] ?_
     refine zu 14 21 #[T,T,T,T,T,T,T,T,T,T,T,T,T,T,T,F,F,F] ?_
     refine zu 15 22 #[T,T,T,T,T,T,T,T,T,T,T,T,T,T,T,T,F,F] ?_
     refine zu 16 23 #[T,T,T,T,T,T,T,T,T,T,T,T,T,T,T,T,T,F] ?_
     refine zp 17 24 #[T,T,T,T,T,T,T,T,T,T,T,T,T,T,T,T,T,T] ?_
     refine done_ (done_of HT_.out (by kernel_rfl)) ?_
     try go_wp2
     go_meet
     case rel => exact ⟨_, (true), z13, H', ⟨z31⟩, ⟨z18⟩⟩
    ·rw [if_neg c7] at H; have c7b0 : decide (255 < a0) = false := decide_eq_false c7; clear c7
     by_cases c9 : 0 ≤ 4
     ·rw [if_pos c9] at H; have c9b0 := eq_true c9
      try (have c9sa0 := c9b0; simp only [ByteArray.size_append, Int.natCast_add] at c9sa0)
      have c9b1 : decide (0 ≤ 4) = true := decide_eq_true c9; clear c9
      by_cases c10 : 4 ≤ (a1.size : Int)
      ·rw [if_pos c10] at H; have c10b0 := eq_true c10
       try (have c10sa0 := c10b0; simp only [ByteArray.size_append, Int.natCast_add] at c10sa0)
       have c10b1 : decide (4 ≤ (a1.size : Int)) = true := decide_eq_true c10; clear c10; replace H := Option.bind_eq_some_iff.mp H; obtain ⟨t116, A110, H⟩ := H; replace H : (Wj0 k a1 ((a1.extract 0 4).toList != t116.toList)) = some (r1, r2) := H; have A11 := A0k A110; clear A110; have H' := A0k H; clear H
       try go_wp2
       have n0_ := A0k (pD HB.out); clear HB; have HB := n0_; clear n0_; refine start_ (n := 18) (S := fun w' => True) (ds := []) #[F,F,F,F,F,F,F,F,F,F,F,F,F,F,F,F,F,F] (by kernel_rfl) rfl rfl trivial (fun hHeld => ?_); refine with_tabW mark_Open.tab1 mark_Open.bits1 (fun HT_ HW_ => ?_); generalize w.drew = w12 at HB hHeld ⊢; refine zp 0 7 #[T,F,F,F,F,F,F,F,F,F,F,F,F,F,F,F,F,F] ?_
       refine zp 1 8 #[T,T,F,F,F,F,F,F,F,F,F,F,F,F,F,F,F,F] ?_
       refine zp 2 9 #[T,T,T,F,F,F,F,F,F,F,F,F,F,F,F,F,F,F] ?_
       refine zp 3 10 #[T,T,T,T,F,F,F,F,F,F,F,F,F,F,F,F,F,F] ?_
       refine zp 4 11 #[T,T,T,T,T,F,F,F,F,F,F,F,F,F,F,F,F,F] ?_
       refine zp 5 12 #[T,T,T,T,T,T,F,F,F,F,F,F,F,F,F,F,F,F] ?_
       refine zp 6 13 #[T,T,T,T,T,T,T,F,F,F,F,F,F,F,F,F,F,F] ?_
       refine zp 7 14 #[T,T,T,T,T,T,T,T,F,F,F,F,F,F,F,F,F,F] ?_
       refine zp 8 15 #[T,T,T,T,T,T,T,T,T,F,F,F,F,F,F,F,F,F] ?_
       refine zp 9 16 #[T,T,T,T,T,T,T,T,T,T,F,F,F,F,F,F,F,F] ?_
       refine zp 10 17 #[T,T,T,T,T,T,T,T,T,T,T,F,F,F,F,F,F,F] ?_
       refine zp 11 18 #[T,T,T,T,T,T,T,T,T,T,T,T,F,F,F,F,F,F] ?_
       refine zp 12 19 #[T,T,T,T,T,T,T,T,T,T,T,T,T,F,F,F,F,F] ?_
       refine zp 13 20 #[T,T,T,T,T,T,T,T,T,T,T,T,T,T,F,F,F,F] ?_
       refine zp 14 21 #[T,T,T,T,T,T,T,T,T,T,T,T,T,T,T,F,F,F] ?_
       refine zo 15 22 #[T,T,T,T,T,T,T,T,T,T,T,T,T,T,T,T,F,F] (fun K hK => ?_); refine goes_ Tryz.func43 (by kernel_rfl) rfl #[.int .i64 a0] (by rfl) rfl rfl z40 ?_
       with_reducible refine (mark_head.calls k a0 t116 _ A11.out).mono ?_
       rintro e w13 ⟨rfl, hb⟩; refine ⟨_, rfl, ?_⟩; have n0_ := A0k (pS z18 hb); clear HB; have HB := n0_; clear n0_
       (try clear hb)
       refine hK.out _ _ trivial (fun hHeld => ?_); clear hK K; refine zn ?_
       refine zp 16 23 #[T,T,T,T,T,T,T,T,T,T,T,T,T,T,T,T,T,F] ?_
       refine zp 17 24 #[T,T,T,T,T,T,T,T,T,T,T,T,T,T,T,T,T,T] ?_
       refine done_ (done_of HT_.out (by kernel_rfl)) ?_
       try go_wp2
       go_meet
       case rel => exact ⟨_, (((a1.extract 0 4).toList != t116.toList)), z13, H', ⟨z31⟩, ⟨z18⟩⟩
      ·rw [if_neg c10] at H; exact absurd H (by simp)
     ·rw [if_neg c9] at H; exact absurd H (by simp)
  ·rw [if_neg c4] at H; have c4b0 : ((a1.size : Int) == 512) = false := beq_eq_false_iff_ne.mpr c4; have c4b1 : ((a1.size : Int) != 512) = true := bne_iff_ne.mpr c4
   (first | rw [c4b0] | (simp only [i64_w, i32_w]; rw [c4b0]) | skip)
   have H' := A0k H; clear H
   try go_wp2
   have n0_ := A0k (pD HB.out); clear HB; have HB := n0_; clear n0_; refine start_ (n := 18) (S := fun w' => True) (ds := []) #[F,F,F,F,F,F,F,F,F,F,F,F,F,F,F,F,F,F] (by kernel_rfl) rfl rfl trivial (fun hHeld => ?_); refine with_tabW mark_Open.tab1 mark_Open.bits1 (fun HT_ HW_ => ?_); generalize w.drew = w14 at HB hHeld ⊢; refine zp 0 7 #[T,F,F,F,F,F,F,F,F,F,F,F,F,F,F,F,F,F] ?_
   refine zp 1 8 #[T,T,F,F,F,F,F,F,F,F,F,F,F,F,F,F,F,F] ?_
   refine zp 2 9 #[T,T,T,F,F,F,F,F,F,F,F,F,F,F,F,F,F,F] ?_
   refine zp 3 10 #[T,T,T,T,F,F,F,F,F,F,F,F,F,F,F,F,F,F] ?_
   refine zu 4 11 #[T,T,T,T,T,F,F,F,F,F,F,F,F,F,F,F,F,F] ?_
   refine zu 5 12 #[T,T,T,T,T,T,F,F,F,F,F,F,F,F,F,F,F,F] ?_
   refine zp 6 13 #[T,T,T,T,T,T,T,F,F,F,F,F,F,F,F,F,F,F] ?_
   refine zp 7 14 #[T,T,T,T,T,T,T,T,F,F,F,F,F,F,F,F,F,F] ?_
   refine zu 8 15 #[T,T,T,T,T,T,T,T,T,F,F,F,F,F,F,F,F,F] ?_
   refine zu 9 16 #[T,T,T,T,T,T,T,T,T,T,F,F,F,F,F,F,F,F] ?_
   refine zp 10 17 #[T,T,T,T,T,T,T,T,T,T,T,F,F,F,F,F,F,F] ?_
   refine zp 11 18 #[T,T,T,T,T,T,T,T,T,T,T,T,F,F,F,F,F,F] ?_
   refine zu 12 19 #[T,T,T,T,T,T,T,T,T,T,T,T,T,F,F,F,F,F] ?_
   refine zu 13 20 #[T,T,T,T,T,T,T,T,T,T,T,T,T,T,F,F,F,F] ?_
   refine zu 14 21 #[T,T,T,T,T,T,T,T,T,T,T,T,T,T,T,F,F,F] ?_
   refine zu 15 22 #[T,T,T,T,T,T,T,T,T,T,T,T,T,T,T,T,F,F] ?_
   refine zu 16 23 #[T,T,T,T,T,T,T,T,T,T,T,T,T,T,T,T,T,F] ?_
   refine zp 17 24 #[T,T,T,T,T,T,T,T,T,T,T,T,T,T,T,T,T,T] ?_
   refine done_ (done_of HT_.out (by kernel_rfl)) ?_
   try go_wp2
   go_meet
   case rel => exact ⟨_, (true), z13, H', ⟨z31⟩, ⟨z18⟩⟩
 case rest =>
  clear HC3; obtain ⟨kq, x24_2, rfl, HA, HJ2, HB⟩ := hcut; cases kq with
  | zero => exact absurd HA.out (by simp [Wj0])
  | succ kj2 =>
   have H := HA.out; clear HA; simp only [Wj0] at H
   by_cases c15 : x24_2 = true
   ·subst c15; have H1 : (some ((⟨#[]⟩ : ByteArray), some 4)) = some (r1, r2) := by rw [if_pos rfl] at H; exact H
    clear H; have H := H1; clear H1; simp only [Option.some.injEq, Prod.mk.injEq] at H; obtain ⟨rfl, rfl⟩ := H; go_wp2
    go_ret2
    exact ⟨z12, z18⟩
   ·replace c15 := Bool.eq_false_iff.mpr c15; subst c15; have H1 : (if 508 ≤ (a1.size : Int) then (if 0 ≤ 508 then ((mark_sumOf.f kj2 (a1.extract 0 508)).bind fun t117 => (if (a1.extract 508 a1.size).toList = t117.toList then (if 4 ≤ 508 then (some (a1.extract 4 508, none)) else (none)) else (some ((⟨#[]⟩ : ByteArray), some 5)))) else (none)) else (none)) = some (r1, r2) := by rw [if_neg (show ¬ (false = true) by decide)] at H; exact H
    clear H; have H := H1; clear H1
    by_cases c16 : 508 ≤ (a1.size : Int)
    ·rw [if_pos c16] at H; have c16b0 := eq_true c16
     try (have c16sa0 := c16b0; simp only [ByteArray.size_append, Int.natCast_add] at c16sa0)
     have c16b1 : decide (508 ≤ (a1.size : Int)) = true := decide_eq_true c16; clear c16
     by_cases c17 : 0 ≤ 508
     ·rw [if_pos c17] at H; have c17b0 := eq_true c17
      try (have c17sa0 := c17b0; simp only [ByteArray.size_append, Int.natCast_add] at c17sa0)
      have c17b1 : decide (0 ≤ 508) = true := decide_eq_true c17; clear c17; have c18b0 := eq_true (of_decide_eq_true z11 : 508 ≤ (a1.size : Int)); replace H := Option.bind_eq_some_iff.mp H; obtain ⟨t117, A190, H⟩ := H; replace H : (if (a1.extract 508 a1.size).toList = t117.toList then (if 4 ≤ 508 then (some (a1.extract 4 508, none)) else (none)) else (some ((⟨#[]⟩ : ByteArray), some 5))) = some (r1, r2) := H; have A19 := A0k A190; clear A190
      by_cases c20 : (a1.extract 508 a1.size).toList = t117.toList
      ·rw [if_pos c20] at H; have c20b0 : ((a1.extract 508 a1.size).toList == t117.toList) = true := beq_iff_eq.mpr c20; have c20b1 : ((a1.extract 508 a1.size).toList != t117.toList) = false := bne_eq_false_iff_eq.mpr c20; clear c20
       by_cases c21 : 4 ≤ 508
       ·rw [if_pos c21] at H; have c21b0 := eq_true c21
        try (have c21sa0 := c21b0; simp only [ByteArray.size_append, Int.natCast_add] at c21sa0)
        have c21b1 : decide (4 ≤ 508) = true := decide_eq_true c21; clear c21; have c22b0 := eq_true (of_decide_eq_true z11 : 508 ≤ (a1.size : Int)); simp only [Option.some.injEq, Prod.mk.injEq] at H; obtain ⟨rfl, rfl⟩ := H
        try go_wp2
        have n0_ := A0k (pD HB.out); clear HB; have HB := n0_; clear n0_; refine start_ (n := 8) (S := fun w' => True) (ds := []) #[F,F,F,F,F,F,F,F] (by kernel_rfl) rfl rfl trivial (fun hHeld => ?_); refine with_tabW mark_Open.tab4 mark_Open.bits4 (fun HT_ HW_ => ?_); generalize wc.drew = w23 at HB hHeld ⊢; refine zp 0 26 #[T,F,F,F,F,F,F,F] ?_
        refine zp 1 27 #[T,T,F,F,F,F,F,F] ?_
        refine zp 2 28 #[T,T,T,F,F,F,F,F] ?_
        refine zp 3 29 #[T,T,T,T,F,F,F,F] ?_
        refine zp 4 30 #[T,T,T,T,T,F,F,F] ?_
        refine zp 5 31 #[T,T,T,T,T,T,F,F] ?_
        refine zo 6 32 #[T,T,T,T,T,T,T,F] (fun K hK => ?_); refine goes_ Tryz.func44 (by kernel_rfl) rfl #[.string (a1.extract 0 508)] (by rfl) rfl rfl z40 ?_
        with_reducible refine (mark_sumOf.calls kj2 (a1.extract 0 508) t117 _ (Laid.below HL_.out z18) A19.out).mono ?_
        rintro e w24 ⟨rfl, hb⟩; refine ⟨_, rfl, ?_⟩; have n0_ := A0k (pS z18 hb); clear HB; have HB := n0_; clear n0_
        (try clear hb)
        refine hK.out _ _ trivial (fun hHeld => ?_); clear hK K; refine zn ?_
        refine zp 7 33 #[T,T,T,T,T,T,T,T] ?_
        refine done_ (done_of HT_.out (by kernel_rfl)) ?_
        try go_wp2
        go_ret2
        exact ⟨z12, z18⟩
       ·rw [if_neg c21] at H; exact absurd H (by simp)
      ·rw [if_neg c20] at H; have c20b0 : ((a1.extract 508 a1.size).toList == t117.toList) = false := beq_eq_false_iff_ne.mpr c20; have c20b1 : ((a1.extract 508 a1.size).toList != t117.toList) = true := bne_iff_ne.mpr c20; simp only [Option.some.injEq, Prod.mk.injEq] at H; obtain ⟨rfl, rfl⟩ := H
       try go_wp2
       have n0_ := A0k (pD HB.out); clear HB; have HB := n0_; clear n0_; refine start_ (n := 8) (S := fun w' => True) (ds := []) #[F,F,F,F,F,F,F,F] (by kernel_rfl) rfl rfl trivial (fun hHeld => ?_); refine with_tabW mark_Open.tab4 mark_Open.bits4 (fun HT_ HW_ => ?_); generalize wc.drew = w25 at HB hHeld ⊢; refine zp 0 26 #[T,F,F,F,F,F,F,F] ?_
       refine zp 1 27 #[T,T,F,F,F,F,F,F] ?_
       refine zp 2 28 #[T,T,T,F,F,F,F,F] ?_
       refine zp 3 29 #[T,T,T,T,F,F,F,F] ?_
       refine zp 4 30 #[T,T,T,T,T,F,F,F] ?_
       refine zp 5 31 #[T,T,T,T,T,T,F,F] ?_
       refine zo 6 32 #[T,T,T,T,T,T,T,F] (fun K hK => ?_); refine goes_ Tryz.func44 (by kernel_rfl) rfl #[.string (a1.extract 0 508)] (by rfl) rfl rfl z40 ?_
       with_reducible refine (mark_sumOf.calls kj2 (a1.extract 0 508) t117 _ (Laid.below HL_.out z18) A19.out).mono ?_
       rintro e w26 ⟨rfl, hb⟩; refine ⟨_, rfl, ?_⟩; have n0_ := A0k (pS z18 hb); clear HB; have HB := n0_; clear n0_
       (try clear hb)
       refine hK.out _ _ trivial (fun hHeld => ?_); clear hK K; refine zn ?_
       refine zp 7 33 #[T,T,T,T,T,T,T,T] ?_
       refine done_ (done_of HT_.out (by kernel_rfl)) ?_
       try go_wp2
       go_ret2
       exact ⟨z12, z18⟩
     ·rw [if_neg c17] at H; exact absurd H (by simp)
    ·rw [if_neg c16] at H; exact absurd H (by simp)
end
end Go.Proofs.YtegcaniikdibdaaGreatDoor.VPagePuts
