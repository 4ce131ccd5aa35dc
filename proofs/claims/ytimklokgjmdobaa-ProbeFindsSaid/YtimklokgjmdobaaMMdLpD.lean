/- ProbeFinds: the law: what is asked. -/
import Derived.Test.YtimklokgjmdobaaMMdAw22
import Derived.Test.YtimklokgjmdobaaMMdPf
import Derived.Test.YtimklokgjmdobaaMMdNewN
set_option linter.unusedVariables false
set_option linter.unusedSimpArgs false
set_option maxRecDepth 100000
namespace Go.Proofs.Ytimklokgjmdobaa.Md
open Go Go.RowKit Sx Cn Dc Ck Vc
structure XLp where
  i : Int
  mm : Mm
noncomputable section
def laLp (I : XLp → Prop) (s : St) : Option (LA XLp) := match memBs 9 s with
  | some mb => some ⟨[(envM 9, true), (envC 9, true)], fun x => mb x.mm, [11], fun x => [iv x.i], fun s => match tmI 11 s, rdMm s.H.h (envM 9 s) with | some i, some z => some ⟨i, z.m⟩ | _, _ => none, I, fun x => (16 - x.i).toNat⟩
  | none => none
def conLp : Con := Con.add 6 conYes (Con.add fAlP cAlF (Con.add fCh cCh (Con.add fIx cIx (Con.add fDr cDr (conN conWN)))))
theorem conLp_ok : ConOK P conLp := .add aw22_ok (.add cAlF_ok (.add cCh_ok (.add cIx_ok (.add cDr_ok (conN_ok conWN_ok)))))
def verLp (g : Nat → Int) (n cap : Nat) (w d : Int) (I : XLp → Prop) : V := verF P conLp 12 12 3 [] (.loop XLp [] (laLp I) .nil .nil) [.c (slK 0 1 n cap), .c (.iv .u8 w), .c (i6 d)] ⟨[(0, ints .u64 n g)], 1, fun _ => True⟩ yesV
end
end Go.Proofs.Ytimklokgjmdobaa.Md
