/- Machines that run alone: what a run is; an environment that is read. -/
import Derived.Test.YtomaagmleafjeaaMMdLo
import Derived.Test.YtomaagmleafjeaaMNwMem
import Derived.Test.YtomaagmleafjeaaMW
set_option linter.unusedVariables false
set_option linter.unusedSimpArgs false
set_option linter.unusedVariables false
set_option maxRecDepth 100000
namespace Go.Proofs.Ytomaagmleafjeaa.Md
open Go Go.RowKit Sx Cn Dc Ck Vc
/-- A result: code, value, number of steps; the memory. -/
structure Rs where
  c : Int
  v : Int
  k : Int
  m : Mm
def sz (b t : Int) : Int := IntKind.i64.wrap (IntKind.u64.wrap (b - t))
def ringC (r c i : Int) : Int := if c < 1 then -1 else IntKind.i64.wrap (r + IntKind.i64.wrap (i.tmod (IntKind.u64.wrap c)))
noncomputable section
def argsAl (t : TypeId) (sz : Nat) (M : Int) : List SV := [.c (.ptr 0 (.k 0) (.k 0) 0 26), .c (.ifc t 3 (.k 0) (.k 0) 0 sz), iv M]
def rdRs (s : SV) (H : Hp) : Option Rs := match s with
  | .t [.c c, .c v, .c k] => match numC c, numC v, numC k, rdMm H.h 1 with
    | some c, some v, some k, some x => some ⟨c, v, k, x.m⟩
    | _, _, _, _ => none
  | _ => none
/-- The memory's blocks. -/
def memBs (t : Nat) (s : St) : Option (Mm → List Blk) := match find (envM t s) s.H.h, find (envC t s) s.H.h with
  | some (.own tm sm (some (.slc kc a b z len cap) :: _)), some (.row t2 c2 n _) => some fun m => [.own tm sm ([.slc kc a b z len cap, i6 m.lk, i6 m.lc, uw m.lo, uw m.ln, i6 m.ct].map some), .row t2 c2 n [.ci .u64 fun _ e => m.g e]]
  | _, _ => none
def dumB : Blk := .view 0 (fun _ => 0) []
def cellI (k f : Nat) (h : HL) : Option Int := (bCell k f h).bind numC
end
end Go.Proofs.Ytomaagmleafjeaa.Md

/- Bits, rings: the conditions, printed by program. -/
set_option linter.unusedVariables false
set_option maxRecDepth 100000
namespace Go.Proofs.Ytomaagmleafjeaa.Md
open Go Go.RowKit Sx Cn Dc Ck Vc

end Go.Proofs.Ytomaagmleafjeaa.Md
