/- LevelsBits: the law: what is asked. -/
import Derived.Test.YtomaagmleafjeaaMMdAw13
import Derived.Test.YtomaagmleafjeaaMMdAlK
import Derived.Test.YtomaagmleafjeaaMMdBit
import Derived.Test.YtomaagmleafjeaaMMdLv
import Derived.Test.YtomaagmleafjeaaMMd
import Derived.Test.YtomaagmleafjeaaMMdNewN
set_option linter.unusedVariables false
set_option linter.unusedSimpArgs false
set_option linter.unusedVariables false
set_option maxRecDepth 100000
namespace Go.Proofs.Ytomaagmleafjeaa.Md
open Go Go.RowKit Sx Cn Dc Ck Vc
structure XLb where
  i : Nat
  m : Mm
noncomputable section
abbrev nLb (a : Int) : Int := IntKind.i64.wrap (1 + IntKind.i64.wrap (a.tmod 5))
/-- One worker: the layout of L levels whose deques have room for D. -/
def yW (L D : Int) : Ly := ⟨1, L, 1, 1, D, 1, 5, 6, 7, 8, 0⟩
def okLb (N : Int) (n len : Nat) (x : XLb) : Prop := x.i ≤ len ∧ Wf (yW N 3) n N.toNat x.m ∧ ∀ v, v < N.toNat → x.m.g (Tq (yW N 3) v + 1).toNat ≤ x.i
def rdLb (s : St) : Option XLb := match tmI 9 s, rdMm s.H.h (envM 7 s) with
  | some i, some x => some ⟨i.toNat, x.m⟩
  | _, _ => none
def laLb (N : Int) (len : Nat) (s : St) : Option (LA XLb) := match memBs 7 s, find (envC 7 s) s.H.h with
  | some mb, some (.row _ _ n _) => some ⟨[(envM 7, true), (envC 7, true)], fun x => mb x.m, [9], fun x => [.c (i6 x.i)], rdLb, okLb N n len, fun x => len - x.i⟩
  | _, _ => none
def laLb2 (N : Int) (s : St) : Option (LA Nat) := some ⟨[], fun _ => [], [13], fun v => [.c (i6 v)], fun s => (tmI 13 s).map Int.toNat, fun v => (v : Int) ≤ N, fun v => N.toNat - v⟩
def conLb : Con := Con.add 34 conYes (Con.add fAl cAl (Con.add fRBit cRBit (conN conWN)))
def verLb (a : Int) (g : Nat → Int) (len cap : Nat) : V := verF P conLb 12 12 6 [] (.loop XLb [] (laLb (nLb a) len) (.loop Nat [] (laLb2 (nLb a)) .nil .nil) .nil) [.c (.iv .u8 a), .c (slK 0 1 len cap)] ⟨[(0, ints .i64 len g)], 1, fun _ => True⟩ yesV
end
end Go.Proofs.Ytomaagmleafjeaa.Md
