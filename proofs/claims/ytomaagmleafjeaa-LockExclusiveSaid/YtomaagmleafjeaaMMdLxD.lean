/- LockExclusive: the law: what is asked. -/
import Derived.Test.YtomaagmleafjeaaMMdNewB
import Derived.Test.YtomaagmleafjeaaMMd
import Derived.Test.YtomaagmleafjeaaMMdAl
import Derived.Test.YtomaagmleafjeaaMNwLock
set_option linter.unusedVariables false
set_option linter.unusedSimpArgs false
set_option linter.unusedVariables false
set_option maxRecDepth 100000
namespace Go.Proofs.Ytomaagmleafjeaa.Md
open Go Go.RowKit Sx Cn Dc Ck Vc
/-- How many picks; the memory; which machines wait; which hold the lock. -/
structure XLx where
  i : Int
  m : Mm
  p : Nat → Bool
  ho : Nat → Bool
structure XLy where
  k : Int
  h : Int
/-- How many machines. -/
abbrev nLx (a : Int) : Int := IntKind.i64.wrap (Int.ofNat 2 + IntKind.i64.wrap (a.tmod (Int.ofNat 5)))
def capB (b : Bool) : Nat := bif b then 1 else 0
noncomputable section
def tAtt : TypeId := 149
def attCols : List Col := [.cb fun _ _ => false, .ci .i64 fun _ _ => 0, .ci .i64 fun _ _ => 0, .ci .i64 fun i _ => i, .cb fun _ _ => false]
/-- Which elements are not nil. -/
def rdP : Col → Option (Nat → Bool)
  | .sel p _ _ => some fun e => p 0 e
  | .ov _ e .nilI col => match rdP col with
    | some p => some fun x => if x = e.v then false else p x
    | none => none
  | .ov _ _ _ col => rdP col
  | .cc .nilI => some fun _ => false
  | _ => none
def findF (t : TypeId) : HL → Nat
  | [] => 0
  | (k, b) :: r => match b with
    | .fam _ t' _ _ (_ :: _) => match Nat.beq t t' with
      | true => k
      | false => findF t r
    | _ => findF t r
def rdB (k : Nat) (h : HL) : Option (Nat → Bool) := match rowCols k h with
  | [.cb g] => some fun e => g 0 e
  | [.cc (.kb b)] => some fun _ => b
  | _ => none
def rdXLx (s : St) : Option XLx := match tmI 11 s, rdMm s.H.h (envM 5 s), rowCols (tmK 8 s) s.H.h, rdB (tmK 9 s) s.H.h with
  | some i, some x, [c], some ho => match rdP c with
    | some p => some ⟨i, x.m, fun e => p e, fun e => ho e⟩
    | none => none
  | _, _, _, _ => none
def laLx (len : Nat) (I : XLx → Prop) (s : St) : Option (LA XLx) := match memBs 5 s, find (tmK 8 s) s.H.h, find (tmK 9 s) s.H.h, find (tmK 10 s) s.H.h with
  | some mb, some (.row t8 c8 n8 _), some (.row t9 c9 n9 _), some (.row t10 c10 n10 _) => fN (findF tAtt s.H.h) fun kF => some ⟨[(envM 5, true), (envC 5, true), (tmK 8, true), (tmK 9, true), (tmK 10, true), (fun s => findF tAtt s.H.h, false)],
      fun x => mb x.m ++ [.row t8 c8 n8 [.sel (fun _ e => x.p e) (.cf 147 kF (fun _ e => e) 0 5) (.cc .nilI)], .row t9 c9 n9 [.cb fun _ e => x.ho e], .row t10 c10 n10 [.cb fun _ _ => false], .fam true tAtt (fun e => capB (x.p e)) (fun e => capB (x.p e)) attCols],
      [11], fun x => [.c (i6 x.i)], rdXLx, I, fun x => (len - x.i).toNat⟩
  | _, _, _, _ => none
def laLy (a : Int) (I : XLy → Prop) (s : St) : Option (LA XLy) := some ⟨[], fun _ => [], [16, 15], fun x => [.c (i6 x.k), .c (i6 x.h)], fun s => match tmI 16 s, tmI 15 s with
  | some k, some h => some ⟨k, h⟩
  | _, _ => none, I, fun x => (nLx a - x.k).toNat⟩
def laLz (a : Int) (I : XLx → XLy → Prop) (s : St) : Option (LA XLy) := match rdXLx s with
  | some x => laLy a (I x) s
  | none => none
def con15x : Con := Con.add 44 conYes (conL (conN conWB))
theorem con15x_ok : ConOK P con15x := .add (conYes_ok (local_of_ps conW_ok fun _ => vhAw15)) (conL_ok (conN_ok conWB_ok))
def verLx (a : Int) (g : Nat → Int) (lg cg : Nat) (I1 : XLx → Prop) (I2 : XLx → XLy → Prop) : V := verF P con15x 16 12 7 [(18, .joinIf (tmK 8) 0)]
  (.loop XLx [.newFam tAtt attCols] (laLx lg I1) (.loop XLy [] (laLz a I2) .nil .nil) .nil)
  [.c (.iv .u8 a), .c (slK 0 1 lg cg)] ⟨[(0, ints .i64 lg g)], 1, fun _ => True⟩ yesV
end
end Go.Proofs.Ytomaagmleafjeaa.Md
