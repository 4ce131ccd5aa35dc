/- The sanity check of chapter 23: what is asked. -/
import Derived.Test.YtomaagmleafjeaaGreatMMd
import Derived.Test.YtomaagmleafjeaaGreatMMdFl
set_option linter.unusedVariables false
set_option linter.unusedSimpArgs false
set_option maxRecDepth 100000
namespace Go.Proofs.YtomaagmleafjeaaGreat.Md
open Go Go.RowKit Sx Cn Dc Ck Vc
noncomputable section
def con23a : Con := Con.add fAl cAlZ (Con.add fFil cFl (conN conWN))
theorem con23a_ok : ConOK P con23a := .add cAlZ_ok (.add cFl_ok (conN_ok conWN_ok))
def vAw23 : V := verF P con23a 16 12 7 [(4, gEv 1)] .nil [] ⟨[], 0, fun _ => True⟩ (psYes.fin 0)
end
end Go.Proofs.YtomaagmleafjeaaGreat.Md
