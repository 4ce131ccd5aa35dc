/- TakeAll: the law: what is asked. -/
import Derived.Test.YtomaagmleafjeaaMMdAw24
import Derived.Test.YtomaagmleafjeaaMMdEt
import Derived.Test.YtomaagmleafjeaaMMdTlL
set_option linter.unusedVariables false
set_option linter.unusedSimpArgs false
set_option linter.unusedVariables false
set_option maxRecDepth 100000
namespace Go.Proofs.Ytomaagmleafjeaa.Md
open Go Go.RowKit Sx Cn Dc Ck Vc
/-- Of the Takes: how many; the memory; the events, their room; what is known as started; what was claimed. -/
structure XTl where
  i : Int
  m : Mm
  l : El
  nc : Nat
  st : Nat → Bool
  cl : Nat → Int
/-- Of the entries: how many; whether the task is among them; how many of each level. -/
structure XTc where
  i : Int
  h : Bool
  c : Nat → Int
noncomputable section
def row1 (k : Nat) (h : HL) : Option (Nat → Int) := match find k h with
  | some b => match colsB b with
    | [c] => match colG c with
      | some g => some fun e => g e
      | none => none
    | _ => none
  | none => none
def rdXTl (s : St) : Option XTl := match tmI 9 s, rdMm s.H.h (envM 5 s), rdEl 5 s, rdSt (envR 5 s) s.H.h, row1 (tmK 8 s) s.H.h with
  | some i, some x, some (e, nc), some st, some cl => some ⟨i, x.m, e, nc, fun i => st i, fun i => cl i⟩
  | _, _, _, _, _ => none
def laTl (I : XTl → Prop) (s : St) : Option (LA XTl) := match memBs 5 s, find (tmK 5 s) s.H.h, find (envR 5 s) s.H.h with
  | some mb, some (.own te se cs), some (.row _ cr nr _) => fN (envE 5 s) fun ke => some ⟨[(envM 5, true), (envC 5, true), (tmK 5, true), (envE 5, false), (envR 5, true), (tmK 8, true)],
      fun x => mb x.m ++ [.own te se (cs.set 25 (some (.slc ke (.k 0) (.k 0) 5 (.s x.l.n) (.s x.nc)))), .row 80 x.nc x.l.n x.l.v.cols, recB nr cr x.st, .row 3 9 9 [.ci .i64 fun _ e => x.cl e]],
      [9], fun x => [.c (i6 x.i)], rdXTl, I, fun x => (30 - x.i).toNat⟩
  | _, _, _ => none
def laTt (I : Int → Prop) (s : St) : Option (LA Int) := some ⟨[], fun _ => [], [13], fun i => [.c (i6 i)], tmI 13, I, fun i => (9 - i).toNat⟩
def rdXTc (s : St) : Option XTc := match tmI 16 s, tmB 14 s, row1 (tmK 15 s) s.H.h with
  | some i, some b, some c => some ⟨i, b, fun i => c i⟩
  | _, _, _ => none
def laTc (I : Int → XTc → Prop) (s : St) : Option (LA XTc) := match tmI 13 s, find (tmK 15 s) s.H.h with
  | some t, some (.row ty _ _ _) => some ⟨[(tmK 15, true)], fun x => [.row ty 3 3 [.ci .i64 fun _ e => x.c e]], [16, 14], fun x => [.c (i6 x.i), .c (.bv x.h)], rdXTc, I t, fun x => (16 - x.i).toNat⟩
  | _, _ => none
def con24l : Con := Con.add 95 conYes (Con.add fAl cAlU (Con.add fLai cLa (Con.add fTk cTk (Con.add fEnt cEnt (Con.add fClW cClW (conN conWB))))))
theorem con24l_ok : ConOK P con24l := .add aw24_ok (.add cAlU_ok (.add cLa_ok (.add cTk_ok (.add cEnt_ok (.add cClW_ok (conN_ok conWB_ok))))))
def verTl (g s : Nat → Int) (lg cg ls cs : Nat) (I1 : XTl → Prop) (I2 : Int → Prop) (I3 : Int → XTc → Prop) : V := verF P con24l 16 12 24 []
  (.loop XTl [gEv 5] (laTl I1) .nil (.loop Int [] (laTt I2) (.loop XTc [.rowO (tmK 15)] (laTc I3) .nil .nil) .nil))
  [.c (slK 0 1 lg cg), .c (slK 1 1 ls cs)] ⟨[(0, ints .u8 lg g), (1, ints .u8 ls s)], 2, fun _ => True⟩ yesV
end
end Go.Proofs.Ytomaagmleafjeaa.Md
