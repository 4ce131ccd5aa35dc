/- InjectorOrder: the law: what is asked. -/
import Derived.Test.YtomaagmleafjeaaMMdAw16
import Derived.Test.YtomaagmleafjeaaMMdInK
import Derived.Test.YtomaagmleafjeaaMMdHk
import Derived.Test.YtomaagmleafjeaaMMd
import Derived.Test.YtomaagmleafjeaaMMdNewN
set_option linter.unusedVariables false
set_option linter.unusedSimpArgs false
set_option linter.unusedVariables false
set_option maxRecDepth 100000
namespace Go.Proofs.Ytomaagmleafjeaa.Md
open Go Go.RowKit Sx Cn Dc Ck Vc
structure XI1 where
  i : Nat
  m : Mm
structure XI2 where
  i : Nat
  last : Int
  sn : Nat → Bool
  m : Mm
  l : El
  nc : Nat
/-- Deadline and key of a task. -/
def dO (g : Nat → Int) (v : Nat) : Int := (g v).tmod 32
def kO (g : Nat → Int) (v : Nat) : Int := pkW (dO g v) v v
noncomputable section
def okI1 (g : Nat → Int) (len : Nat) (x : XI1) : Prop := x.i ≤ len ∧ x.m.g 2 = x.i ∧ x.m.g 3 = x.i ∧ Hk len x.i (kO g) (fun v => decide (v < x.i)) (fun j => x.m.g (4 + j))
def okI2 (g : Nat → Int) (len : Nat) (x : XI2) : Prop := x.i ≤ len ∧ x.m.g 2 = ((len - x.i : Nat) : Int) ∧ Hk len (len - x.i) (kO g) (fun v => !x.sn v) (fun j => x.m.g (4 + j)) ∧ (-1 ≤ x.last ∧ x.last < len) ∧ (0 ≤ x.last → ∀ j, j < len - x.i → kO g x.last.toNat ≤ x.m.g (4 + j)) ∧ x.l.n = x.i ∧ x.l.n ≤ x.nc
def rdI1 (te ti : Nat) (s : St) : Option XI1 := match tmI ti s, rdMm s.H.h (envM te s) with
  | some i, some x => some ⟨i.toNat, x.m⟩
  | _, _ => none
def laI1 (g : Nat → Int) (len te ti : Nat) (s : St) : Option (LA XI1) := match memBs te s with
  | some mb => some ⟨[(envM te, true), (envC te, true)], fun x => mb x.m, [ti], fun x => [.c (i6 x.i)], rdI1 te ti, okI1 g len, fun x => len - x.i⟩
  | none => none
def wkC (c : Option SC) : Option SC := match c with
  | some c => (numC c).map i6
  | none => none
def wkE (cs : List (Option SC)) (ke : Nat) (ne nc : Nat) : List (Option SC) := [none, none, none, none, none, wkC (cs[5]?).join, none, none, none, none, none] ++ ((cs.drop 11).take 11).map wkC ++ [(cs[22]?).join, none, none, some (.slc ke (.k 0) (.k 0) 5 (.s ne) (.s nc))]
def rdB (k : Nat) (h : HL) : Option (Nat → Bool) := match rowCols k h with
  | [.cb g] => some fun e => g 0 e
  | [.cc (.kb b)] => some fun _ => b
  | _ => none
def rdI2 (te ti tl ts : Nat) (s : St) : Option XI2 := match tmI ti s, tmI tl s, rdMm s.H.h (envM te s), rdB (tkey ts s) s.H.h, rdEl te s with
  | some i, some l, some x, some b, some (e, nc) => some ⟨i.toNat, l, b, x.m, e, nc⟩
  | _, _, _, _, _ => none
def laI2 (g : Nat → Int) (len te ti tl ts : Nat) (s : St) : Option (LA XI2) := match memBs te s, find (tmK te s) s.H.h with
  | some mb, some (.own t sz cs) => fN (envE te s) fun ke => some ⟨[(envM te, true), (envC te, true), (tmK te, true), (envE te, false), (tkey ts, true)],
      fun x => mb x.m ++ [.own t sz (wkE cs ke x.l.n x.nc), .row 80 x.nc x.l.n x.l.v.cols, .row 4 len len [.cb fun _ e => x.sn e]],
      [ti, tl], fun x => [.c (i6 x.i), .c (i6 x.last)], rdI2 te ti tl ts, okI2 g len, fun x => len - x.i⟩
  | _, _ => none
def conIo : Con := Con.add 50 conYes (Con.add fAl cAlI (conN conWN))
def verIo (g : Nat → Int) (len cap : Nat) : V := verF P conIo 12 12 9 [] (.loop XI1 [] (laI1 g len 4 6) .nil (.loop XI2 [gEv 4] (laI2 g len 4 12 10 11) .nil .nil)) [.c (slK 0 1 len cap)] ⟨[(0, ints .u16 len g)], 1, fun _ => True⟩ yesV
end
end Go.Proofs.Ytomaagmleafjeaa.Md
