/- Contracts of functions of this seat: each call comes to what its Lean function computes; no condition beyond what each theorem states. Printed by a program of this session's own laid over the kit's printer. -/
import Derived.Test.YtofiedgnnpednaaDoorVNvmeRefusesx0
import Derived.Test.YtofiedgnnpednaaDoorVNvmeRefusesx1
namespace Go.Proofs.YtofiedgnnpednaaDoor.VNvmeRefuses
open Go.RowKit Go.Proofs.YtofiedgnnpednaaDoorW.PrintWords Go.Proofs.YtofiedgnnpednaaDoorW.PrintLast Go.Proofs.YtofiedgnnpednaaDoorW.PrintMore
attribute [local go_sem] max2_int min2_int max_two min_two max_three min_three max_four min_four   -- for this text's walks alone
set_option linter.unusedVariables false
set_option linter.unusedSimpArgs false

-- @GIVEN lib_nvop
/-- What a device does, in plain words: each method's answer, and the device behind it. -/
def NC.trim (c : NC) : NC := if c.kind = 4 then { c with sector := 0 } else c
def Dev.ready (D : Dev) (s : Int) : Option Int := if D.down = true then some 3 else if s < 0 ∨ D.sectors ≤ s then some 1 else none
def Dev.enq (D : Dev) (c : NC) : Dev × Option Int := if D.depth ≤ (D.queue.length : Int) then (D, some 2) else ({ D with queue := D.queue ++ [c] }, none)
def Dev.submit (D : Dev) (c : NC) : Dev × Option Int :=
  match D.ready c.trim.sector with
  | some e => (D, some e)
  | none =>
    if c.kind = 2 ∨ c.kind = 3 then (if c.data.size ≠ 512 then (D, some 10) else D.enq c.trim)
    else if c.kind = 1 ∨ c.kind = 4 then D.enq { c.trim with data := ⟨#[]⟩ }
    else (D, some 1)
def noughts : ByteArray := ⟨(List.replicate 512 0).toArray⟩
def lookC (s : Int) : List NC → Option NC
  | [] => none
  | c :: l => match lookC s l with
    | some x => some x
    | none => if c.sector = s then some c else none
def Dev.found (D : Dev) (s : Int) : ByteArray := match lookC s D.cache with
  | some c => c.data
  | none => match lookM s D.last with
    | some c => c.data
    | none => noughts
def Dev.look (D : Dev) (s : Int) : ByteArray × Option Int := match D.ready s with
  | some e => (⟨#[]⟩, some e)
  | none => (D.found s, none)
def putsM (l : List NC) (m : List (Int × NC)) : List (Int × NC) := l.foldl (fun m c => putM c.sector c m) m
def Dev.persist (D : Dev) (l : List NC) : Dev := { D with last := putsM l D.last }
/-- Which of some writes are kept. -/
def keptOf (keep : List Int) : Nat → List NC → List NC
  | _, [] => []
  | i, c :: l => if keep.length = 0 ∨ keep.getD (i % keep.length) 0 = 0 then keptOf keep (i + 1) l else c :: keptOf keep (i + 1) l
def writesOf (l : List NC) : List NC := l.filter fun c => c.kind == 2 || c.kind == 3
def Dev.lose (D : Dev) (keep : List Int) : Dev := { D with last := putsM (keptOf keep 0 (D.cache ++ writesOf D.queue)) D.last, cache := [], queue := [], down := true, fail := 0, keep := [] }
def Dev.bump (D : Dev) (k : Int) : Dev :=
  if k = 1 then { D with c1 := wrap64 (D.c1 + 1) } else if k = 2 then { D with c2 := wrap64 (D.c2 + 1) } else if k = 3 then { D with c3 := wrap64 (D.c3 + 1) } else if k = 4 then { D with c4 := wrap64 (D.c4 + 1) } else D
def Dev.carry (D : Dev) (c : NC) : Dev × NC :=
  if c.kind = 1 then (D, { c with data := D.found c.sector })
  else if c.kind = 3 then ({ D with cache := D.cache.filter fun x => x.sector != c.sector, last := putM c.sector c D.last }, c)
  else if c.kind = 2 then ({ D with cache := D.cache ++ [c] }, c)
  else if c.kind = 4 then ({ D with cache := [], last := putsM D.cache D.last }, c)
  else (D, c)
def Dev.tick (D : Dev) : Dev := if 1 < D.fail then { D with fail := wrap64 (D.fail - 1) } else D
def Dev.complete (D : Dev) (i : Int) : Dev × NC × Option Int :=
  if D.down = true then (D, zeroN, some 3) else if i < 0 ∨ (D.queue.length : Int) ≤ i then (D, zeroN, some 1)
  else if D.fail = 1 then (D.lose D.keep, zeroN, some 3)
  else
    let c := D.queue.getD i.toNat zeroN
    let D1 := { D.tick with queue := D.queue.eraseIdx i.toNat }
    let r := (D1.bump c.kind).carry c
    (r.1, r.2, none)
def Dev.boot (D : Dev) : Dev := { D with down := false, fail := 0, keep := [] }
def Dev.crash (D : Dev) (keep : List Int) : Dev := if D.down = true then D else D.lose keep
def Dev.failAt (D : Dev) (n : Int) (keep : List Int) : Dev := if D.down = true then D else { D with fail := max n 1, keep := keep }
/-- What a device's rows may hold. -/
def Dev.Ok (D : Dev) : Prop := D.depth ≤ 64 ∧ (∀ c ∈ D.queue, 1 ≤ c.kind ∧ c.kind ≤ 4)


end Go.Proofs.YtofiedgnnpednaaDoor.VNvmeRefuses
