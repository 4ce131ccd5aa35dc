/- BoostChains: the law: what is asked. -/
import Derived.Test.YtomaagmleafjeaaMMdAw19
import Derived.Test.YtomaagmleafjeaaMMdBcK
import Derived.Test.YtomaagmleafjeaaMMdEt
import Derived.Test.YtomaagmleafjeaaMMdTk
import Derived.Test.YtomaagmleafjeaaMMdRmD
set_option linter.unusedVariables false
set_option linter.unusedSimpArgs false
set_option linter.unusedVariables false
set_option maxRecDepth 100000
namespace Go.Proofs.Ytomaagmleafjeaa.Md
open Go Go.RowKit Sx Cn Dc Ck Vc
/-- Of the first loop: the task, how many will be raised, the levels so far, the memory. -/
structure XBl where
  i : Nat
  q : Nat
  a : Nat → Int
  m : Mm
def bfB (g : Nat → Int) (len : Nat) (u : Nat) : Int := if u < len ∧ u < 8 then (g u).tmod 3 else 0
def nBl (len : Nat) : Nat := 1 + min len 7
/-- The cells behind the first tasks' stores. -/
def mB (n : Nat) (bf : Nat → Int) (t e : Nat) : Int := if e < 26 ∨ t ≤ (e - 26) / 5 then 0 else if (e - 26) % 5 = 0 then 3 else if (e - 26) % 5 = 1 then bf ((e - 26) / 5) else if (e - 26) % 5 = 3 ∧ (e - 26) / 5 + 1 < n then (((e - 26) / 5 + 2 : Nat) : Int) else 0
noncomputable section
def okBl (n : Nat) (lv : Int) (bf : Nat → Int) (x : XBl) : Prop := x.i ≤ n ∧ x.q = rais lv bf x.i ∧ (∀ u, x.a u = if u < x.i then bf u else 0) ∧ ∀ e, x.m.g e = mB n bf x.i e
def rowB (k : Nat) (h : HL) : Option (Nat → Int) := match rowCols k h with
  | [c] => colG c
  | _ => none
def rdBl (s : St) : Option XBl := match tmI 14 s, tmI 13 s, rowB (tkey 12 s) s.H.h, rdMm s.H.h (envM 8 s) with
  | some i, some q, some a, some x => some ⟨i.toNat, q.toNat, a, x.m⟩
  | _, _, _, _ => none
def laBl1 (n : Nat) (lv : Int) (bf : Nat → Int) (s : St) : Option (LA XBl) := match memBs 8 s with
  | some mb => some ⟨[(envM 8, true), (envC 8, true), (tkey 12, true)], fun x => mb x.m ++ [.row 3 8 8 [.ci .i64 fun _ e => x.a e]], [14, 13], fun x => [.c (i6 x.i), .c (i6 x.q)], rdBl, okBl n lv bf, fun x => n - x.i⟩
  | none => none
def laBl2 (s : St) : Option (LA Nat) := some ⟨[], fun _ => [], [18], fun j => [.c (i6 j)], fun s => (tmI 18 s).map Int.toNat, fun j => j ≤ 8, fun j => 8 - j⟩
def conBl (n : Nat) (bf : Nat → Int) (rd : Bool) : Con := Con.add 64 conYes (Con.add fAl (cAlW n bf rd) (Con.add fEnt cEnt (Con.add fClW cClW (Con.add fTk cTk conNL))))
theorem conBl_ok (n : Nat) (bf : Nat → Int) (rd : Bool) : ConOK P (conBl n bf rd) := .add aw19_ok (.add (cAlW_ok n bf rd) (.add cEnt_ok (.add cClW_ok (.add cTk_ok conNL_ok))))
def verBl (g : Nat → Int) (len cap : Nat) (to : Int) (rd : Bool) : V := verF P (conBl (nBl len) (bfB g len) rd) 12 12 13 [(21, gEv 8)] (.loop XBl [] (laBl1 (nBl len) (to.tmod 3) (bfB g len)) .nil (.loop Nat [] laBl2 .nil .nil)) [.c (slK 0 1 len cap), .c (.iv .u8 to), .c (.bv rd)] ⟨[(0, ints .u8 len g)], 1, fun _ => True⟩ yesV
end
end Go.Proofs.Ytomaagmleafjeaa.Md
