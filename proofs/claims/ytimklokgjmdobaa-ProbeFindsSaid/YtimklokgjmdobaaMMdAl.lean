/- Machines that run alone: what a run is; an environment that is read. -/
import Derived.Test.YtimklokgjmdobaaMMdLo
import Derived.Test.YtimklokgjmdobaaMNwMem
set_option linter.unusedVariables false
set_option linter.unusedSimpArgs false
set_option maxRecDepth 100000
namespace Go.Proofs.Ytimklokgjmdobaa.Md
open Go Go.RowKit Sx Cn Dc Ck Vc
structure Rs where
  c : Int
  v : Int
  k : Int
  m : Mm
def sz (b t : Int) : Int := IntKind.i64.wrap (IntKind.u64.wrap (b - t))
def hiB (x : Int) : Int := IntKind.i64.wrap ((Lib.bitLen x.toNat : Int) - 1)
noncomputable section
def argsAl (t : TypeId) (sz : Nat) (M : Int) : List SV := [.c (.ptr 0 (.k 0) (.k 0) 0 26), .c (.ifc t 3 (.k 0) (.k 0) 0 sz), iv M]
def memBs (t : Nat) (s : St) : Option (Mm → List Blk) := match find (envM t s) s.H.h, find (envC t s) s.H.h with
  | some (.own tm sm (some (.slc kc a b z len cap) :: _)), some (.row t2 c2 n _) => some fun m => [.own tm sm ([.slc kc a b z len cap, i6 m.lk, i6 m.lc, uw m.lo, uw m.ln, i6 m.ct].map some), .row t2 c2 n [.ci .u64 fun _ e => m.g e]]
  | _, _ => none
def cellI (k f : Nat) (h : HL) : Option Int := (bCell k f h).bind numC
end
end Go.Proofs.Ytimklokgjmdobaa.Md
