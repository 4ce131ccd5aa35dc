/- DrainBusy: the law: what is asked. -/
import Derived.Test.YtomaagmleafjeaaGreatMMdAw23
import Derived.Test.YtomaagmleafjeaaGreatMMdEt
set_option linter.unusedVariables false
set_option linter.unusedSimpArgs false
set_option linter.unusedVariables false
set_option maxRecDepth 100000
namespace Go.Proofs.YtomaagmleafjeaaGreat.Md
open Go Go.RowKit Sx Cn Dc Ck Vc
noncomputable section
def laBu (s : St) : Option (LA Nat) := match find (tkey 8 s) s.H.h with
  | some (.row _ _ n _) => some ⟨[], fun _ => [], [13], fun j => [.c (i6 j)], fun s => (tmI 13 s).map Int.toNat, fun j => j ≤ n, fun j => n - j⟩
  | _ => none
def con23 : Con := Con.add 7 conYes (Con.add fAl cAlZ (Con.add fFil cFl (Con.add fEnt cEnt (Con.add fClW cClW (conN conWN)))))
theorem con23_ok : ConOK P con23 := .add aw23_ok (.add cAlZ_ok (.add cFl_ok (.add cEnt_ok (.add cClW_ok (conN_ok conWN_ok)))))
def verBu (g : Nat → Int) (len cap : Nat) (h : Int) : V := verF P con23 12 12 4 [(7, gEv 6)] (.loop Nat [] laBu .nil .nil) [.c (slK 0 1 len cap), .c (.iv .u8 h)] ⟨[(0, ints .u8 len g)], 1, fun _ => True⟩ yesV
end
end Go.Proofs.YtomaagmleafjeaaGreat.Md
