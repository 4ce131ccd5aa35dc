/- Remove of the injector, alone: a model of its steps; what is asked. -/
import Derived.Test.YtomaagmleafjeaaMMdInD
import Derived.Test.YtomaagmleafjeaaMMd
set_option linter.unusedVariables false
set_option linter.unusedSimpArgs false
set_option maxRecDepth 100000
namespace Go.Proofs.Ytomaagmleafjeaa.Md
open Go Go.RowKit Sx Cn Dc Ck Vc
/-- Events: how many, which. -/
structure El where
  n : Nat
  v : Evs
def El.put (l : El) (k w t : Int) : El := ⟨l.n + 1, ⟨fun e => if e = l.n then k else l.v.k e, fun e => if e = l.n then w else l.v.w e, fun e => if e = l.n then t else l.v.t e, fun e => if e = l.n then 0 else l.v.o e, fun e => if e = l.n then 0 else l.v.l e⟩⟩
/-- The line, the machine's numbers and words; steps; the memory; the events. -/
structure XRm where
  ln : Int
  n : Int
  i : Int
  c : Int
  x : Int
  y : Int
  z : Int
  s : Nat
  m : Mm
  l : El
/-- A result: code, value, number of steps; the memory; the events. -/
structure Re where
  c : Int
  v : Int
  k : Int
  m : Mm
  l : El
noncomputable section
def rdEl (t : Nat) (s : St) : Option (El × Nat) := match bCell (tmK t s) 25 s.H.h, rdEv (envE t s) s.H.h with
  | some (.slc _ _ _ _ m c), some ev => some (⟨m.v, ev⟩, c.v)
  | _, _ => none
def rdRe (s : SV) (H : Hp) : Option (Re × Nat × Nat) := match rdRs s H, bCell 0 25 H.h with
  | some r, some (.slc ke _ _ _ m c) => match rdEv ke H.h with
    | some ev => some (⟨r.c, r.v, r.k, r.m, ⟨m.v, ev⟩⟩, c.v, ke)
    | none => none
  | _, _ => none
def svRe (r : Re) : SV := .t [.c (i6 r.c), .c (i6 r.v), .c (i6 r.k)]
def keyEv (H : Hp) : List Nat := match bCell 0 25 H.h with
  | some (.slc ke _ _ _ _ _) => [ke]
  | _ => []
end
end Go.Proofs.Ytomaagmleafjeaa.Md
