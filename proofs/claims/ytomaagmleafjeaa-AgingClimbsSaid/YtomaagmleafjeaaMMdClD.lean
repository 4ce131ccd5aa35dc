/- AgingClimbs: the law: what is asked. -/
import Derived.Test.YtomaagmleafjeaaMMdAw20
import Derived.Test.YtomaagmleafjeaaMMd
set_option linter.unusedVariables false
set_option linter.unusedSimpArgs false
set_option linter.unusedVariables false
set_option maxRecDepth 100000
namespace Go.Proofs.Ytomaagmleafjeaa.Md
open Go Go.RowKit Sx Cn Dc Ck Vc
structure XCl where
  i : Nat
  e : En
noncomputable section
def lvCl (a : Int) (i : Nat) : Nat := min 3 ((i - 1) / a.toNat)
/-- Task 0: its state is in cell 48, its level in 49, since in 52; the deque of level l begins at 8 + 10 l. -/
def okCl (a : Int) (x : XCl) : Prop := (1 ≤ x.i ∧ x.i ≤ 60) ∧ x.e.now = (x.i : Int) - 1 ∧ x.e.ne = lvCl a x.i ∧ x.e.ne ≤ x.e.nc ∧ x.e.m.g 48 = 1 ∧ x.e.m.g 49 = lvCl a x.i ∧ x.e.m.g 52 = a * lvCl a x.i ∧
  (lvCl a x.i < 1 → x.e.m.g 18 = 0 ∧ x.e.m.g 19 = 0) ∧ (lvCl a x.i < 2 → x.e.m.g 28 = 0 ∧ x.e.m.g 29 = 0) ∧ (lvCl a x.i < 3 → x.e.m.g 38 = 0 ∧ x.e.m.g 39 = 0) ∧ ∀ e, 0 ≤ x.e.m.g e ∧ x.e.m.g e ≤ 18446744073709551615
def rdCl (s : St) : Option XCl := match tmI 9 s, rdEn 7 s with
  | some i, some e => some ⟨i.toNat, e⟩
  | _, _ => none
def laCl (a : Int) (s : St) : Option (LA XCl) := match enB 7 s with
  | some b => some ⟨enPaths 7, fun x => b x.e, [9], fun x => [.c (i6 x.i)], rdCl, okCl a, fun x => 61 - x.i⟩
  | none => none
def con20N : Con := Con.add 74 conYes conNL
def aCl (age : Int) : Int := IntKind.i64.wrap (1 + IntKind.i64.wrap (age.tmod 6))
def verCl (age ticks : Int) : V := verF P con20N 16 12 15 [] (.loop XCl [gEv 7] (laCl (aCl age)) .nil .nil) [.c (.iv .u8 age), .c (.iv .u8 ticks)] ⟨[], 0, fun _ => True⟩ yesV
end
end Go.Proofs.Ytomaagmleafjeaa.Md
