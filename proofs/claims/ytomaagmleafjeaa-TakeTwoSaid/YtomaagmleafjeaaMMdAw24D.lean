/- The sanity check of chapter 24: what is asked. -/
import Derived.Test.YtomaagmleafjeaaMMdLa
set_option linter.unusedVariables false
set_option linter.unusedSimpArgs false
set_option maxRecDepth 100000
namespace Go.Proofs.Ytomaagmleafjeaa.Md
open Go Go.RowKit Sx Cn Dc Ck Vc
noncomputable section
def con24a : Con := Con.add fAl cAlU (Con.add fLai cLa (conN conWB))
theorem con24a_ok : ConOK P con24a := .add cAlU_ok (.add cLa_ok (conN_ok conWB_ok))
def vAw24 : V := verF P con24a 16 12 95 [(4, gEv 1)] .nil [] ⟨[], 0, fun _ => True⟩ (psYes.fin 0)
end
end Go.Proofs.Ytomaagmleafjeaa.Md
