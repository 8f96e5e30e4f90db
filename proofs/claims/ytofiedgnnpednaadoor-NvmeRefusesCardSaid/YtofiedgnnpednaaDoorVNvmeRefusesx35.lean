/- Contracts of functions of this seat: each call comes to what its Lean function computes; no condition beyond what each theorem states. Printed by a program of this session's own laid over the kit's printer. -/
import Derived.ProofKit
import Derived.SizedLaws
import Derived.Deep.Slices
import Derived.OpenShut
import Derived.Lib.SmallJoins
import Derived.ChangeArms
import Derived.Test.YtofiedgnnpednaaDoorVNvmeRefusesx0
namespace Go.Proofs.YtofiedgnnpednaaDoor.VNvmeRefuses
open Go.RowKit Go.Proofs.YtofiedgnnpednaaDoorW.PrintWords Go.Proofs.YtofiedgnnpednaaDoorW.PrintLast Go.Proofs.YtofiedgnnpednaaDoorW.PrintMore
attribute [local go_sem] max2_int min2_int max_two min_two max_three min_three max_four min_four   -- for this text's walks alone
set_option linter.unusedVariables false
set_option linter.unusedSimpArgs false

-- @GIVEN lib_came
/-- What came in at type t reads as a value of kind d, within bounds ok (each string, slice within the reach). -/
structure Came {α : Type} (t : TypeId) (d : Kd α) (ok : α → Prop) : Prop where
  len : Tryd.prog.cellsOf t = d.sz
  read : ∀ {H : Type} {enc : TypeId × Value → H} {w : World} {base : Nat} {spare : Nat → Bool} {held : Bool} {fuel : Nat} {cs : List Value} {x : DataW H × List MemPlace}, DataW.trod enc Tryd.prog w base spare held fuel t cs = some x → (∀ n ∈ x.1.weights Tryd.prog t, n ≤ 140737488351232) → ∃ a : α, d.K w a cs ∧ ok a
/-- The fields from cell off on. -/
structure CameFs {α : Type} (fs : List Field) (off : Nat) (d : Kd α) (ok : α → Prop) : Prop where
  read : ∀ {H : Type} {enc : TypeId × Value → H} {w : World} {base : Nat} {spare : Nat → Bool} {held : Bool} {fuel : Nat} {cs : List Value} {xs : List (DataW H × List MemPlace)}, cs.length = off + d.sz → xs.length = fs.length →
    (∀ (i : Nat) (f : Field), fs[i]? = some f → DataW.trod enc Tryd.prog w base spare held fuel f.type ((cs.drop f.offset).take (Tryd.prog.cellsOf f.type)) = xs[i]?) →
    (∀ n ∈ DataW.weightsEach Tryd.prog (fs.map (·.type)) (xs.map (·.1)), n ≤ 140737488351232) → ∃ a : α, d.K w a (cs.drop off) ∧ ok a
theorem Came.int {t : TypeId} {k : IntKind} (hu : Tryd.prog.underlying t = some (.int k)) (hc : Tryd.prog.cellsOf t = 1) : Came t (Kd.int k) (fun x => (Lit.int k x).wf = true) :=
  ⟨hc, fun h _ => by
    obtain ⟨n, rfl, _, hw⟩ := DataW.trod_int hu h
    exact ⟨n, rfl, hw⟩⟩
theorem Came.bool {t : TypeId} (hu : Tryd.prog.underlying t = some .bool) (hc : Tryd.prog.cellsOf t = 1) : Came t Kd.bool (fun _ => True) :=
  ⟨hc, fun h _ => by
    obtain ⟨n, rfl, _⟩ := DataW.trod_bool hu h
    exact ⟨n, rfl, trivial⟩⟩
theorem Came.string {t : TypeId} (hu : Tryd.prog.underlying t = some .string) (hc : Tryd.prog.cellsOf t = 1) : Came t Kd.string (fun s => s.size ≤ 140737488351232) :=
  ⟨hc, fun h hw => by
    obtain ⟨s, rfl, rfl, _⟩ := DataW.trod_string hu h
    refine ⟨s, rfl, ?_⟩
    have := hw s.data.toList.length (by simp [DataW.weights])
    simpa using this⟩
theorem weightsAll_mem {H : Type} {P : Program} {e : TypeId} : ∀ {l : List (DataW H)} {i : Nat} {d : DataW H}, l[i]? = some d → ∀ n ∈ d.weights P e, n ∈ DataW.weightsAll P e l
  | d0 :: r, 0, d, h, n, hn => by
    simp only [List.getElem?_cons_zero, Option.some.injEq] at h
    subst h
    simp only [DataW.weightsAll, List.mem_append]
    exact .inl hn
  | d0 :: r, i + 1, d, h, n, hn => by
    simp only [List.getElem?_cons_succ] at h
    simp only [DataW.weightsAll, List.mem_append]
    exact .inr (weightsAll_mem h n hn)
theorem Came.slice {α : Type} [Inhabited α] {t e : TypeId} {d : Kd α} {ok : α → Prop} {B : Nat} (hu : Tryd.prog.underlying t = some (.slice e)) (hc : Tryd.prog.cellsOf t = 1) (hB : Tryd.prog.bytesOf e = B) (he : Came e d ok) :
    Came t (Kd.slice e d) (fun l => l.length * B ≤ 140737488351232 ∧ l.length ≤ maxLen ∧ ∀ x ∈ l, ok x) :=
  ⟨hc, fun {H enc w base spare held fuel cs x} h hw => by
    rcases Go.Deep.open_slice hu h with ⟨rfl, rfl⟩ | ⟨a, len, cap, m, n, D, Pl, rfl, hb, hl, hm, hmm, rfl, hx⟩
    · refine ⟨[], ⟨none, 0, rfl, Nat.le_refl _, rfl, Nat.zero_le _, fun h0 => absurd h0 (by simp)⟩, by simp, by simp, by simp⟩
    · have hlm : len ≤ m := by
        rw [hmm]; split
        · exact hl
        · exact Nat.le_refl _
      have hex : ∀ i, i < len → ∃ a' : α, ∃ cs', w.cells? base (a.add (i * Tryd.prog.cellsOf e)) (Tryd.prog.cellsOf e) = some cs' ∧ d.K w a' cs' ∧ ok a' := by
        intro i hi
        obtain ⟨cs', h1, h2⟩ := hx i (by omega)
        obtain ⟨a', hK, hok⟩ := he.read h2 (fun n hn => hw n (by
          simp only [DataW.weights, hu, List.mem_cons, List.mem_append]
          exact .inr (.inl (weightsAll_mem (i := i) (d := D i) (by simp [hi]) n hn))))
        exact ⟨a', cs', h1, hK, hok⟩
      obtain ⟨f, hf⟩ := Go.Deep.choose_lt hex
      refine ⟨(List.range len).map f, ⟨some a, cap, by simp, by simpa using hl, by simp, ?_, ?_⟩, ?_, ?_, ?_⟩
      · have : maxLen = 9223372036854775807 := rfl
        simp; omega
      · intro _
        refine ⟨a, rfl, fun j p hp => ?_⟩
        have hj : j < len := by
          rcases Nat.lt_or_ge j len with h' | h'
          · exact h'
          · rw [List.getElem?_eq_none (by simpa using h')] at hp; cases hp
        obtain ⟨cs', h1, hK, _⟩ := hf j hj
        obtain rfl : f j = p := by simpa [hj] using hp
        obtain ⟨_, hlen, hcell⟩ := World.cells?_some h1
        refine ⟨cs', hlen.trans he.len, hK, fun i u hiu => ?_⟩
        have hil : i < Tryd.prog.cellsOf e := by
          rw [← hlen]
          rcases Nat.lt_or_ge i cs'.length with h' | h'
          · exact h'
          · rw [List.getElem?_eq_none h'] at hiu; cases hiu
        have := hcell i hil
        rw [Go.Deep.add_add] at this
        rw [← he.len, this, hiu]
      · have := hw ((((List.range len).map D).length + ((List.range (m - len)).map fun j => D (len + j)).length) * Tryd.prog.bytesOf e) (by simp [DataW.weights, hu])
        rw [hB] at this
        simp only [List.length_map, List.length_range] at this ⊢
        exact Nat.le_trans (Nat.mul_le_mul_right _ (by omega)) this
      · simp; omega
      · intro x hx'
        simp only [List.mem_map, List.mem_range] at hx'
        obtain ⟨i, hi, rfl⟩ := hx'
        obtain ⟨_, _, _, hok⟩ := hf i hi
        exact hok⟩
theorem CameFs.one {α : Type} {f : Field} {off : Nat} {d : Kd α} {ok : α → Prop} (ho : f.offset = off) (hd : Came f.type d ok) : CameFs [f] off d ok :=
  ⟨fun {H enc w base spare held fuel cs xs} hl hx h hw => by
    obtain ⟨x, rfl⟩ : ∃ x, xs = [x] := by
      match xs, hx with
      | [x], _ => exact ⟨x, rfl⟩
    have h0 := h 0 f rfl
    have e : (cs.drop f.offset).take (Tryd.prog.cellsOf f.type) = cs.drop off := by
      rw [ho, List.take_of_length_le]
      rw [List.length_drop, hd.len]; omega
    rw [e] at h0
    exact hd.read (x := x) h0 (fun n hn => hw n (by simpa [DataW.weightsEach] using hn))⟩
theorem CameFs.cons {α β : Type} {f : Field} {fs : List Field} {off : Nat} {d : Kd α} {ok : α → Prop} {d' : Kd β} {ok' : β → Prop} (ho : f.offset = off) (hd : Came f.type d ok) (hr : CameFs fs (off + d.sz) d' ok') :
    CameFs (f :: fs) off (Kd.pair d d') (fun x => ok x.1 ∧ ok' x.2) :=
  ⟨fun {H enc w base spare held fuel cs xs} hl hx h hw => by
    obtain ⟨x, xr, rfl⟩ : ∃ x xr, xs = x :: xr := by
      match xs, hx with
      | x :: xr, _ => exact ⟨x, xr, rfl⟩
    have hl' : cs.length = off + (d.sz + d'.sz) := hl
    have h0 := h 0 f rfl
    obtain ⟨a, ha, hoa⟩ := hd.read (x := x) h0 (fun n hn => hw n (by simp only [List.map_cons, DataW.weightsEach, List.mem_append]; exact .inl hn))
    obtain ⟨b, hb, hob⟩ := hr.read (cs := cs) (xs := xr) (by omega) (by simpa using hx) (fun i f' hf' => h (i + 1) f' (by simpa using hf')) (fun n hn => hw n (by simp only [List.map_cons, DataW.weightsEach, List.mem_append]; exact .inr hn))
    refine ⟨(a, b), ⟨_, _, ?_, ha, hb⟩, hoa, hob⟩
    rw [ho, hd.len, ← List.drop_drop]
    exact (List.take_append_drop _ _).symm⟩
theorem Came.struct {α : Type} {t : TypeId} {fs : Array Field} {l : List Field} {d : Kd α} {ok : α → Prop} (hu : Tryd.prog.underlying t = some (.struct fs)) (hl : fs.toList = l) (hc : Tryd.prog.cellsOf t = d.sz) (h : CameFs l 0 d ok) : Came t d ok :=
  ⟨hc, fun hx hw => by
    obtain ⟨xs, n, rfl, rfl, h1, h2, h3⟩ := DataW.trod_struct hu hx
    subst hl
    have := h.read (cs := _) (xs := xs) (by rw [h1, hc]; omega) (by simpa using h2) (fun i f hf => h3 i f (by simpa using hf)) (fun n hn => hw n (by simpa [DataW.weights, hu] using hn))
    simpa using this⟩
/-- The elements of an array from the i-th on (l: their numbers). -/
structure CameAs {α : Type} (e : TypeId) (l : List Nat) (i : Nat) (d : Kd α) (ok : α → Prop) : Prop where
  read : ∀ {H : Type} {enc : TypeId × Value → H} {w : World} {base : Nat} {spare : Nat → Bool} {held : Bool} {fuel : Nat} {cs : List Value} {xs : List (DataW H × List MemPlace)}, cs.length = i * Tryd.prog.cellsOf e + d.sz → xs.length = l.length →
    (∀ (j : Nat), j < l.length → DataW.trod enc Tryd.prog w base spare held fuel e ((cs.drop ((i + j) * Tryd.prog.cellsOf e)).take (Tryd.prog.cellsOf e)) = xs[j]?) →
    (∀ n ∈ DataW.weightsAll Tryd.prog e (xs.map (·.1)), n ≤ 140737488351232) → ∃ a : α, d.K w a (cs.drop (i * Tryd.prog.cellsOf e)) ∧ ok a
theorem CameAs.one {α : Type} {e : TypeId} {m i j : Nat} {d : Kd α} {ok : α → Prop} (_ : i = j) (hd : Came e d ok) : CameAs e [m] i d ok :=
  ⟨fun {H enc w base spare held fuel cs xs} hl hx h hw => by
    obtain ⟨x, rfl⟩ : ∃ x, xs = [x] := by
      match xs, hx with
      | [x], _ => exact ⟨x, rfl⟩
    have h0 := h 0 (by simp)
    have e1 : (cs.drop ((i + 0) * Tryd.prog.cellsOf e)).take (Tryd.prog.cellsOf e) = cs.drop (i * Tryd.prog.cellsOf e) := by
      rw [Nat.add_zero, List.take_of_length_le]
      rw [List.length_drop, hl, hd.len]; omega
    rw [e1] at h0
    exact hd.read (x := x) h0 (fun n hn => hw n (by simpa [DataW.weightsAll] using hn))⟩
theorem CameAs.cons {α β : Type} {e : TypeId} {m i j : Nat} {l : List Nat} {d : Kd α} {ok : α → Prop} {d' : Kd β} {ok' : β → Prop} (_ : i = j) (hd : Came e d ok) (hr : CameAs e l (i + 1) d' ok') :
    CameAs e (m :: l) i (Kd.pair d d') (fun x => ok x.1 ∧ ok' x.2) :=
  ⟨fun {H enc w base spare held fuel cs xs} hl hx h hw => by
    obtain ⟨x, xr, rfl⟩ : ∃ x xr, xs = x :: xr := by
      match xs, hx with
      | x :: xr, _ => exact ⟨x, xr, rfl⟩
    have hl' : cs.length = i * Tryd.prog.cellsOf e + (d.sz + d'.sz) := hl
    have h0 := h 0 (by simp)
    rw [Nat.add_zero] at h0
    obtain ⟨a, ha, hoa⟩ := hd.read (x := x) h0 (fun n hn => hw n (by simp only [List.map_cons, DataW.weightsAll, List.mem_append]; exact .inl hn))
    have e2 : (i + 1) * Tryd.prog.cellsOf e = i * Tryd.prog.cellsOf e + d.sz := by rw [Nat.add_mul, Nat.one_mul, hd.len]
    obtain ⟨b, hb, hob⟩ := hr.read (cs := cs) (xs := xr) (by rw [e2]; omega) (by simpa using hx) (fun j hj => by
      have := h (j + 1) (by simpa using hj)
      rw [show i + (j + 1) = i + 1 + j from by omega] at this
      simpa using this) (fun n hn => hw n (by simp only [List.map_cons, DataW.weightsAll, List.mem_append]; exact .inr hn))
    refine ⟨(a, b), ⟨_, _, ?_, ha, hb⟩, hoa, hob⟩
    rw [e2, hd.len, ← List.drop_drop]
    exact (List.take_append_drop _ _).symm⟩
theorem Came.array {α : Type} {t e : TypeId} {n : Nat} {l : List Nat} {d : Kd α} {ok : α → Prop} (hu : Tryd.prog.underlying t = some (.array n e)) (hc : Tryd.prog.cellsOf t = d.sz) (_ : Tryd.prog.cellsOf t = d.sz) (hl : l.length = n) (h : CameAs e l 0 d ok) : Came t d ok :=
  ⟨hc, fun hx hw => by
    obtain ⟨xs, m, rfl, rfl, h1, h2, h3⟩ := DataW.trod_array hu hx
    have := h.read (cs := _) (xs := xs) (by rw [h1, hc]; omega) (by rw [h2, hl]) (fun j hj => by
      have := h3 j (by omega)
      rw [Nat.zero_add]; exact this) (fun n hn => hw n (by simpa [DataW.weights, hu] using hn))
    simpa using this⟩
theorem Came.iso {α β : Type} {t : TypeId} {d : Kd α} {ok : α → Prop} (f : β → α) (g : α → β) (hfg : ∀ y, f (g y) = y) (h : Came t d ok) : Came t (Kd.iso d f) (fun x => ok (f x)) :=
  ⟨h.len, fun hx hw => by
    obtain ⟨a, ha, ho⟩ := h.read hx hw
    refine ⟨g a, ?_, ?_⟩
    · show d.K _ (f (g a)) _
      rw [hfg]; exact ha
    · rw [hfg]; exact ho⟩
/-- A slice among the law's arguments. -/
theorem Came.arg {α : Type} {t e : TypeId} {d : Kd α} {ok : List α → Prop} {H : Type} {enc : TypeId × Value → H} {w : World} {base : Nat} {spare : Nat → Bool} {held : Bool} {a : Option Addr} {len cap : Nat} {x : DataW H} {ps : List MemPlace}
    (h : Came t (Kd.slice e d) ok) (hx : DataW.Trod enc Tryd.prog w base spare held t (.slice a len cap) x ps) (hw : ∀ n ∈ x.weights Tryd.prog t, n ≤ 140737488351232) :
    ∃ l : List α, len = l.length ∧ l.length ≤ cap ∧ d.C w a l.length l ∧ ok l := by
  obtain ⟨fuel, hf⟩ := hx
  obtain ⟨l, ⟨A, c, hcs, hc, hC⟩, hok⟩ := h.read hf hw
  simp [Value.cells] at hcs
  obtain ⟨rfl, rfl, rfl⟩ := hcs
  exact ⟨l, rfl, hc, hC, hok⟩
theorem weights_arg {H : Type} {P : Program} {ts : List TypeId} {ds : List (DataW H)} (hsz : (DataW.weightsEach P ts ds).all (· ≤ reachBytes) = true) {j : Nat} {t : TypeId} {d : DataW H} (ht : ts[j]? = some t) (hd : ds[j]? = some d) : ∀ n ∈ d.weights P t, n ≤ 140737488351232 := fun n hn => by
  have := List.all_eq_true.1 hsz _ (DataW.weights_mem_each ht hd n hn)
  exact of_decide_eq_true this


end Go.Proofs.YtofiedgnnpednaaDoor.VNvmeRefuses
