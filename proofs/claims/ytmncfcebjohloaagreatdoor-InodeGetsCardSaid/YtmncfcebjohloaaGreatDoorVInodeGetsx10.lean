/- Contracts of functions of this seat: each call comes to what its Lean function computes; no condition beyond what each theorem states. Printed by a program of this session's own laid over the kit's printer. -/
import Derived.Lib.Strings
import Derived.Lib.Slices
import Derived.Lib.Walk
import Derived.Lib.Builder
import Derived.Lib.AppendStr
import Derived.Lib.UnsafeStr
import Derived.Laws.Externs
import Derived.RegionTactic
import Derived.Lib.Hide
import Derived.Test.YtmncfcebjohloaaGreatDoorVInodeGetsx0
namespace Go.Proofs.YtmncfcebjohloaaGreatDoor.VInodeGets
open Go.RowKit Go.Proofs.YtmncfcebjohloaaGreatDoorW.PrintWords Go.Proofs.YtmncfcebjohloaaGreatDoorW.PrintLast Go.Proofs.YtmncfcebjohloaaGreatDoorW.PrintMore
attribute [local go_sem] max2_int min2_int max_two min_two max_three min_three max_four min_four   -- for this text's walks alone
set_option linter.unusedVariables false
set_option linter.unusedSimpArgs false

-- @GIVEN lib_builder
/-- A strings.Builder at the head of block g (a block of type T: the builder alone, or a struct that begins with it), all in blocks from B on, holding the bytes bs; p: its own address, or nil while it is fresh. -/
def BIn (T : TypeId) (rest : List Value) (B g : Nat) (p : Value) (bs : List Value) (w : World) : Prop :=
  B ≤ g ∧ ∃ v, w.heap[g]? = some (.cells (p :: v :: rest).toArray T (0, 0)) ∧ w.ownsRow B 5 1 v bs.length bs ∧ v.ownBlock ≠ some g ∧ (bs = [] → v = .slice none 0 0)
/-- .. fresh or used. -/
def BOut (T : TypeId) (rest : List Value) (B g : Nat) (bs : List Value) (w : World) : Prop :=
  BIn T rest B g (.pointer none) bs w ∨ BIn T rest B g (.pointer (some ⟨g, 0, none⟩)) bs w

theorem bsize : (Tryz.prog.info? 61).map (·.size) = some 2 := by kernel_rfl
theorem binfo : (Tryz.prog.info? 5).map (fun i => (i.zero, i.size, i.bytes)) = some (some (.int .u8 0), 1, 1) := by kernel_rfl
theorem bcells : Tryz.prog.cellsOf 5 = 1 := by kernel_rfl

theorem bcells_append (a b : ByteArray) : Lib.strCells (a ++ b) = Lib.strCells a ++ Lib.strCells b := by
  simp [Lib.strCells_eq, Lib.byteCells]

/-- The block's type lets a builder be seen at its head. -/
def BLies (T : TypeId) (rest : List Value) : Prop := liesAt Tryz.prog Tryz.prog.depth T ((rest.length + 2) / Tryz.prog.cellsOf T) 0 61 1 = true

section
variable {T : TypeId} {rest : List Value} {B g : Nat} {p : Value} {bs : List Value} {w : World}
theorem BIn.cell0 (h : BIn T rest B g p bs w) : w.cell? ⟨g, 0, none⟩ = some p := by
  obtain ⟨_, v, hb, _⟩ := h
  rw [Lib.cell_of_heap hb]; rfl
theorem BIn.shape (h : BIn T rest B g p bs w) : w.shape? g = some (T, rest.length + 2) := by
  obtain ⟨_, v, hb, _⟩ := h
  simp [World.shape?, hb]
theorem BIn.lt (h : BIn T rest B g p bs w) : g < w.heap.size := by
  obtain ⟨_, v, hb, _⟩ := h
  exact blk_lt hb
theorem BIn.frozen0 (h : BIn T rest B g p bs w) : w.frozen? ⟨g, 0, none⟩ = false := by
  obtain ⟨_, v, hb, _⟩ := h
  simp [World.frozen?, hb]
theorem BIn.ge (h : BIn T rest B g p bs w) : B ≤ g := h.1
theorem BIn.used (h : BIn T rest B g p bs w) (q : Value) : BIn T rest B g q bs (w.setCell ⟨g, 0, none⟩ q) := by
  obtain ⟨hB, v, hb, hown, hne, hn⟩ := h
  refine ⟨hB, v, ?_, ?_, hne, hn⟩
  · simp [World.setCell, Array.getElem?_modify, hb]
  · refine hown.kept (row := some g) ⟨rfl, rfl, rfl, by simp [World.setCell], fun k _ hk => Below.heap_setCell _ _ _ _ (fun e => hk (by simp [e]))⟩ ?_
    exact Or.inr hne
theorem bown_ne {v : Value} {n : Nat} {xs : List Value} {cs : Array Value} {fr : Nat × Nat} (hown : w.ownsRow B 5 1 v n xs) (hb : w.heap[g]? = some (.cells cs T fr)) (hT : T ≠ 5) : v.ownBlock ≠ some g := Lib.ownBlock_ne hown hb hT
theorem BIn.put {v v' : Value} {bs' : List Value} (hB : B ≤ g) (hb : w.heap[g]? = some (.cells (p :: v :: rest).toArray T (0, 0))) (hown : w.ownsRow B 5 1 v' bs'.length bs') (hT : T ≠ 5) (hn : bs' = [] → v' = .slice none 0 0) :
    BIn T rest B g p bs' (w.setCell ⟨g, 1, none⟩ v') := by
  have hne := bown_ne hown hb hT
  refine ⟨hB, v', ?_, ?_, hne, hn⟩
  · simp [World.setCell, Array.getElem?_modify, hb]
  · exact hown.kept (row := some g) ⟨rfl, rfl, rfl, by simp [World.setCell], fun k _ hk => Below.heap_setCell _ _ _ _ (fun e => hk (by simp [e]))⟩ (Or.inr hne)
/-- A cell behind the builder is written. -/
theorem BIn.rest_set {u z : Value} (h : BIn T [u] B g p bs w) : BIn T [z] B g p bs (w.setCell ⟨g, 2, none⟩ z) := by
  obtain ⟨hB, v, hb, hown, hne, hn⟩ := h
  refine ⟨hB, v, ?_, ?_, hne, hn⟩
  · simp [World.setCell, Array.getElem?_modify, hb]
  · exact hown.kept (row := some g) ⟨rfl, rfl, rfl, by simp [World.setCell], fun k _ hk => Below.heap_setCell _ _ _ _ (fun e => hk (by simp [e]))⟩ (Or.inr hne)
theorem BIn.below {w' : World} (h : BIn T rest B g p bs w) (hb : Below w.heap.size w w') : BIn T rest B g p bs w' := by
  obtain ⟨hB, v, hk, hown, hne, hn⟩ := h
  refine ⟨hB, v, blk_below hk hb, ?_, hne, hn⟩
  rcases hown with ⟨h0, ⟨hv, hz⟩ | ⟨k, cap, cur, hv, hBk, hkk, r⟩⟩
  · exact ⟨h0, .inl ⟨hv, hz⟩⟩
  · exact ⟨h0, .inr ⟨k, cap, cur, hv, hBk, blk_below hkk hb, r⟩⟩
theorem BOut.below {w' : World} (h : BOut T rest B g bs w) (hb : Below w.heap.size w w') : BOut T rest B g bs w' := by
  rcases h with h | h
  · exact .inl (h.below hb)
  · exact .inr (h.below hb)
theorem BIn.alloc (h : BIn T rest B g p bs w) (o : Obj) : BIn T rest B g p bs (w.alloc o) := h.below (below_alloc (Below.refl _ _) o)
theorem BIn.drew (h : BIn T rest B g p bs w) : BIn T rest B g p bs w.drew := h
theorem BIn.drewN (h : BIn T rest B g p bs w) (n : Nat) : BIn T rest B g p bs (w.drewN n) := h
/-- A store into a block that is neither the builder's nor a row of bytes. -/
theorem BIn.far (h : BIn T rest B g p bs w) {k : Nat} {cs : Array Value} {t : TypeId} (hk : w.heap[k]? = some (.cells cs t (0, 0))) (ht : t ≠ 5) (hg : k ≠ g) (j : Nat) (u : Value) : BIn T rest B g p bs (w.setCell ⟨k, j, none⟩ u) := by
  obtain ⟨hB, v, hb, hown, hne, hn⟩ := h
  refine ⟨hB, v, (Below.heap_setCell _ _ _ _ (fun e => hg e.symm)).trans hb, ?_, hne, hn⟩
  rcases hown with ⟨h0, ⟨hv, hz⟩ | ⟨m, cap, cur, hv, hBk, hkk, r⟩⟩
  · exact ⟨h0, .inl ⟨hv, hz⟩⟩
  · refine ⟨h0, .inr ⟨m, cap, cur, hv, hBk, (Below.heap_setCell _ _ _ _ (fun e => ?_)).trans hkk, r⟩⟩
    simp only at e
    subst e
    rw [hkk] at hk
    injection hk with hk
    injection hk with _ hk
    exact ht hk.symm
theorem BOut.alloc (h : BOut T rest B g bs w) (o : Obj) : BOut T rest B g bs (w.alloc o) := by
  rcases h with h | h
  · exact .inl (h.alloc o)
  · exact .inr (h.alloc o)
theorem BOut.drew (h : BOut T rest B g bs w) : BOut T rest B g bs w.drew := h
theorem BOut.drewN (h : BOut T rest B g bs w) (n : Nat) : BOut T rest B g bs (w.drewN n) := h
theorem BOut.far (h : BOut T rest B g bs w) {k : Nat} {cs : Array Value} {t : TypeId} (hk : w.heap[k]? = some (.cells cs t (0, 0))) (ht : t ≠ 5) (hg : k ≠ g) (j : Nat) (u : Value) : BOut T rest B g bs (w.setCell ⟨k, j, none⟩ u) := by
  rcases h with h | h
  · exact .inl (h.far hk ht hg j u)
  · exact .inr (h.far hk ht hg j u)
theorem BOut.lt (h : BOut T rest B g bs w) : g < w.heap.size := by rcases h with h | h <;> exact h.lt
theorem BOut.ge (h : BOut T rest B g bs w) : B ≤ g := by rcases h with h | h <;> exact h.1
theorem BOut.rest_set {u z : Value} (h : BOut T [u] B g bs w) : BOut T [z] B g bs (w.setCell ⟨g, 2, none⟩ z) := by
  rcases h with h | h
  · exact .inl h.rest_set
  · exact .inr h.rest_set
end

/-- All blocks but the builder's own and the rows of bytes stand as they stood. -/
def BKeep (g : Nat) (w w' : World) : Prop := ∀ (k : Nat) (cs : Array Value) (t : TypeId), k ≠ g → t ≠ 5 → w.heap[k]? = some (.cells cs t (0, 0)) → w'.heap[k]? = some (.cells cs t (0, 0))
theorem BKeep.refl (g : Nat) (w : World) : BKeep g w w := fun _ _ _ _ _ h => h
theorem BKeep.trans {g : Nat} {w w1 w2 : World} (h : BKeep g w w1) (k : BKeep g w1 w2) : BKeep g w w2 := fun a cs t h1 h2 h3 => k a cs t h1 h2 (h a cs t h1 h2 h3)
theorem BKeep.set {g : Nat} {w w1 : World} (h : BKeep g w w1) (j : Nat) (u : Value) : BKeep g w (w1.setCell ⟨g, j, none⟩ u) := fun a cs t h1 h2 h3 => (Below.heap_setCell _ _ _ _ (fun e => h1 e)).trans (h a cs t h1 h2 h3)
theorem BKeep.grown {g B : Nat} {w w1 w2 : World} {v : Value} {n : Nat} {xs : List Value} (h : BKeep g w w1) (hown : w1.ownsRow B 5 1 v n xs) (hg : w1.grownBy w2 v.ownBlock) : BKeep g w w2 := fun a cs t h1 h2 h3 => by
  have h4 := h a cs t h1 h2 h3
  exact (hg.block a (blk_lt h4) (fun e => bown_ne hown h4 h2 e.symm)).trans h4
set_option maxHeartbeats 1000000 in
set_option maxRecDepth 100000 in
theorem bCheck_used (g : Nat) (w : World) (h0 : w.cell? ⟨g, 0, none⟩ = some (.pointer (some ⟨g, 0, none⟩))) :
    Calls Tryz.prog 51 #[.pointer (some ⟨g, 0, none⟩)] w fun e w' => e = .returned (.tuple #[]) ∧ w' = w := by
  obtain ⟨j, hj, _⟩ := Option.map_eq_some_iff.1 bsize
  go_enter Tryz.func51, Tryz.ntmps51
  go_wp2
  rw [Lib.run_neq_ptr_same w _ Tryz.underlying58 hj]
  go_wp2
  go_end0
  exact ⟨rfl, rfl⟩

set_option maxHeartbeats 1000000 in
set_option maxRecDepth 100000 in
theorem bCheck_fresh (T : TypeId) (rest : List Value) (hl : BLies T rest) (g : Nat) (w : World) (h0 : w.cell? ⟨g, 0, none⟩ = some (.pointer none)) (hsh : w.shape? g = some (T, rest.length + 2)) (hfz : w.frozen? ⟨g, 0, none⟩ = false) :
    Calls Tryz.prog 51 #[.pointer (some ⟨g, 0, none⟩)] w fun e w' => e = .returned (.tuple #[]) ∧ w' = w.setCell ⟨g, 0, none⟩ (.pointer (some ⟨g, 0, none⟩)) := by
  obtain ⟨j, hj, hjs⟩ := Option.map_eq_some_iff.1 bsize
  have HL := Lib.hid hl; clear hl
  go_enter Tryz.func51, Tryz.ntmps51
  go_wp2
  rw [Lib.run_to_unsafe w ⟨g, 0, none⟩ Tryz.underlying58 Tryz.underlying103 hj (by rw [hjs]; decide) hsh (by simp)]
  simp only [Result.andThen]
  rw [Oper.upon_value]
  go_wp2
  rw [run_callFunc_extern Tryz.func68 (by kernel_rfl) (by kernel_rfl) (by kernel_rfl) (e := Extern.AbiNoEscape.same) (by kernel_rfl)]
  rw [Lib.run_noEscape]
  simp only [Result.andThen]
  rw [Oper.upon_value]
  go_wp2
  rw [Lib.run_from_unsafe w ⟨g, 0, none⟩ Tryz.underlying103 Tryz.underlying58 hj hsh HL.out]
  simp only [Result.andThen]
  rw [Oper.upon_value]
  go_wp2
  go_end0
  exact ⟨rfl, rfl⟩

theorem bCheck (T : TypeId) (rest : List Value) (hl : BLies T rest) (B g : Nat) (bs : List Value) (w : World) (h : BOut T rest B g bs w) :
    Calls Tryz.prog 51 #[.pointer (some ⟨g, 0, none⟩)] w fun e w' => e = .returned (.tuple #[]) ∧ BIn T rest B g (.pointer (some ⟨g, 0, none⟩)) bs w' ∧ Below B w w' ∧ BKeep g w w' := by
  rcases h with h | h
  · refine (bCheck_fresh T rest hl g w h.cell0 h.shape h.frozen0).mono ?_
    rintro e w' ⟨rfl, rfl⟩
    exact ⟨rfl, h.used _, (Below.refl B w).setCell (p := ⟨g, 0, none⟩) h.1 _, (BKeep.refl g w).set 0 _⟩
  · refine (bCheck_used g w h.cell0).mono ?_
    rintro e w' ⟨rfl, rfl⟩
    exact ⟨rfl, h, Below.refl B _, BKeep.refl g _⟩

set_option maxHeartbeats 2000000 in
set_option maxRecDepth 100000 in
/-- WriteString: the bytes go behind those that are there. -/
theorem bWrite (T : TypeId) (rest : List Value) (hl : BLies T rest) (hT : T ≠ 5) (B g : Nat) (bs : List Value) (s : ByteArray) (w : World) (h : BOut T rest B g bs w) (hlen : bs.length + s.size ≤ 140737488355328) (hBw : B ≤ w.heap.size) :
    Calls Tryz.prog 40 #[.pointer (some ⟨g, 0, none⟩), .string s] w fun e w' => e = .returned (.tuple #[.int .i64 s.size, .nilIface]) ∧ BOut T rest B g (bs ++ Lib.strCells s) w' ∧ Below B w w' ∧ BKeep g w w' := by
  obtain ⟨i0, hi, hz0, hz1, hz2⟩ := info_parts binfo
  have HT := Lib.hid hT; clear hT
  go_enter Tryz.func40, Tryz.ntmps40
  go_wp2_with (go_at_call 51; refine (bCheck T rest hl B g bs _ h).mono ?_)
  rintro e w1 ⟨rfl, h1, hb1, hk1⟩
  have HK := Lib.hid hk1; clear hk1
  obtain ⟨hB, v, hbk, hown, hne, hnil⟩ := h1
  have HN := Lib.hid hnil; clear hnil
  have c0 : w1.cell? ⟨g, 0, none⟩ = some (.pointer (some ⟨g, 0, none⟩)) := by rw [Lib.cell_of_heap hbk]; rfl
  have c1 : w1.cell? ⟨g, 1, none⟩ = some v := by rw [Lib.cell_of_heap hbk]; rfl
  go_wp2_with (at_builtin; refine Lib.wpList_append_own_string _ rfl _ _ 59 9 rfl B 5 i0 Tryz.underlying59 Tryz.underlying9 hi hz0 hz1 hz2 _ _ _ rfl hown s rfl ?c3 ?c4 ?c5 ?_)
  case c3 => unfold maxLen; omega
  case c4 => omega
  case c5 => have := hb1.size; omega
  intro v' w2 hown' hgrow hnl
  have HN2 := Lib.hid hnl; clear hnl
  have hlt : g < w1.heap.size := blk_lt hbk
  have hb2 : w2.heap[g]? = some (.cells (.pointer (some ⟨g, 0, none⟩) :: v :: rest).toArray T (0, 0)) := by
    rw [hgrow.block g hlt (fun e => hne e.symm)]
    exact hbk
  have d0 : w2.cell? ⟨g, 0, none⟩ = some (.pointer (some ⟨g, 0, none⟩)) := by rw [Lib.cell_of_heap hb2]; rfl
  have d1 : w2.cell? ⟨g, 1, none⟩ = some v := by rw [Lib.cell_of_heap hb2]; rfl
  have f1 : w2.frozen? ⟨g, 1, none⟩ = false := Lib.frozen_of_heap hb2 1
  obtain ⟨ao, n', cap, rfl⟩ : ∃ ao n' cap, v' = .slice ao n' cap := by
    rcases hown'.2 with ⟨hv, _⟩ | ⟨g, cap, cur, hv, _⟩
    · exact ⟨_, _, _, hv⟩
    · exact ⟨_, _, _, hv⟩
  have HX := Lib.hid hown'; clear hown'
  have HK2 := Lib.hid ((HK.out).grown hown hgrow)
  go_wp2
  go_ret2
  refine ⟨rfl, .inr ?_, ?_, HK2.out.set 1 _⟩
  · refine BIn.put hB hb2 (bs' := bs ++ Lib.strCells s) (by simpa [Lib.strCells_length] using HX.out) HT.out ?_
    intro hz
    have hz2 : bs = [] ∧ Lib.strCells s = [] := List.append_eq_nil_iff.1 hz
    refine (HN2.out).2 ⟨HN.out hz2.1, ?_⟩
    have hl := Lib.strCells_length s
    rw [hz2.2] at hl
    cases s with
    | mk d => cases d with
      | mk l => cases l with
        | nil => rfl
        | cons x r => simp [ByteArray.size] at hl
  · exact (hb1.grown hgrow (by have := hb1.size; omega) (fun k hk => (hown.lt k hk).1)).setCell (p := ⟨g, 1, none⟩) hB _

set_option maxHeartbeats 1000000 in
set_option maxRecDepth 100000 in
theorem bString_some (T : TypeId) (rest : List Value) (B g : Nat) (l : List UInt8) (w : World) (h : BOut T rest B g (Lib.byteCells l) w) (h0 : l ≠ []) :
    Calls Tryz.prog 41 #[.pointer (some ⟨g, 0, none⟩)] w fun e w' => e = .returned (.string ⟨l.toArray⟩) ∧ Below B w w' := by
  obtain ⟨p, hB, v, hbk, hown, hne, hnl⟩ : ∃ p, BIn T rest B g p (Lib.byteCells l) w := by
    rcases h with h | h
    · exact ⟨_, h⟩
    · exact ⟨_, h⟩
  clear h hnl
  have hl0 : l.length ≠ 0 := by simpa using h0
  rw [Lib.byteCells_length] at hown
  obtain ⟨k, cap, cur, rfl, hbg, hg, hnc, hcm, hcs, htake⟩ : ∃ k cap cur, v = .slice (some ⟨k, 0, none⟩) l.length cap ∧ B ≤ k ∧ w.heap[k]? = some (.cells cur 5 (0, 0)) ∧ l.length ≤ cap ∧ cap ≤ maxLen ∧ cur.size = cap * 1 ∧ cur.toList.take (l.length * 1) = Lib.byteCells l := by
    rcases hown.2 with ⟨_, hz⟩ | ⟨k, cap, cur, hv, r⟩
    · exact absurd hz hl0
    · exact ⟨k, cap, cur, hv, r⟩
  have c1 : w.drew.cell? ⟨g, 1, none⟩ = some (.slice (some ⟨k, 0, none⟩) l.length cap) := by
    have : w.drew.heap[g]? = some (.cells (p :: .slice (some ⟨k, 0, none⟩) l.length cap :: rest).toArray T (0, 0)) := hbk
    rw [Lib.cell_of_heap this]; rfl
  have hSD : (Builtin.unsafeSliceData_ #[59] 98 #[.slice (some ⟨k, 0, none⟩) l.length cap]).run Tryz.prog w.drew = .ok (.pointer (some ⟨k, 0, none⟩)) w.drew :=
    Lib.run_unsafeSliceData_row _ _ _ _ _ _ (by omega)
  have hUS : (Builtin.unsafeString_ #[98, 3] 9 #[.pointer (some ⟨k, 0, none⟩), .int .i64 l.length]).run Tryz.prog w.drew = .ok (.string ⟨l.toArray⟩) (w.drew.freeze ⟨k, 0, none⟩ l.length) := by
    refine Lib.run_unsafeString_row w.drew 98 3 9 5 Tryz.underlying98 bcells k cur.size (by have hg' : w.drew.heap[k]? = some (.cells cur 5 (0, 0)) := hg; simp [World.shape?, hg']) l h0 (by omega) (by unfold maxLen at hcm; omega) ?_
    intro j x hx
    have := hown.cells (g := k) rfl j (.int .u8 x.toNat) (by simp [Lib.byteCells, hx])
    exact this
  clear hown hnc hcm hcs htake hbk hne hl0 h0 hg
  go_enter Tryz.func41, Tryz.ntmps41
  go_wp2
  go_region
  all_goals (go_wp2; go_ret; exact ⟨rfl, Lib.below_freeze (Below.drew (Below.refl B w)) (p := ⟨k, 0, none⟩) hbg _⟩)

set_option maxHeartbeats 2000000 in
set_option maxRecDepth 100000 in
theorem bString_none (T : TypeId) (rest : List Value) (B g : Nat) (w : World) (h : BOut T rest B g [] w) :
    Calls Tryz.prog 41 #[.pointer (some ⟨g, 0, none⟩)] w fun e w' => e = .returned (.string ⟨#[]⟩) ∧ Below B w w' := by
  obtain ⟨p, hB, v, hbk, hown, hne, hnl⟩ : ∃ p, BIn T rest B g p [] w := by
    rcases h with h | h
    · exact ⟨_, h⟩
    · exact ⟨_, h⟩
  obtain rfl := hnl rfl
  clear h hnl hne hown
  have hUS : ∀ (W : World) (q : Option Addr), (Builtin.unsafeString_ #[98, 3] 9 #[.pointer q, .int .i64 0]).run Tryz.prog W = .ok (.string .empty) W := fun W q => Lib.run_unsafeString_none W _ _ _ q
  have c1 : w.drew.cell? ⟨g, 1, none⟩ = some (.slice none 0 0) := by
    have : w.drew.heap[g]? = some (.cells (p :: .slice none 0 0 :: rest).toArray T (0, 0)) := hbk
    rw [Lib.cell_of_heap this]; rfl
  have hSD : (Builtin.unsafeSliceData_ #[59] 98 #[.slice none 0 0]).run Tryz.prog w.drew = .ok (.pointer none) w.drew := rfl
  clear hbk
  go_enter Tryz.func41, Tryz.ntmps41
  go_wp2
  go_region
  all_goals (go_wp2; go_ret; exact ⟨rfl, Below.drew (Below.refl B w)⟩)

/-- String: the bytes. -/
theorem bString (T : TypeId) (rest : List Value) (B g : Nat) (s : ByteArray) (w : World) (h : BOut T rest B g (Lib.strCells s) w) :
    Calls Tryz.prog 41 #[.pointer (some ⟨g, 0, none⟩)] w fun e w' => e = .returned (.string s) ∧ Below B w w' := by
  have e0 : Lib.strCells s = Lib.byteCells s.data.toList := rfl
  by_cases hs : s.data.toList = []
  · have e1 : s = ⟨#[]⟩ := by
      cases s with
      | mk d => cases d with
        | mk l => simp at hs; subst hs; rfl
    subst e1
    exact bString_none T rest B g w h
  · rw [e0] at h
    have := bString_some T rest B g s.data.toList w h hs
    simpa using this


end Go.Proofs.YtmncfcebjohloaaGreatDoor.VInodeGets
