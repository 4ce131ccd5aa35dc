/- The sanity check of chapter 22: what is asked. -/
import Derived.Test.YtimklokgjmdobaaMMdPc
set_option linter.unusedVariables false
set_option linter.unusedSimpArgs false
set_option maxRecDepth 100000
namespace Go.Proofs.Ytimklokgjmdobaa.Md
open Go Go.RowKit Sx Cn Dc Ck Vc
noncomputable section
def con22a : Con := Con.add fCh cCh con0
theorem con22a_ok : ConOK P con22a := .add cCh_ok ConOK.nil
def vAw22 : V := verF P con22a 16 12 6 [] .nil [] ⟨[], 0, fun _ => True⟩ (psYes.fin 0)
end
end Go.Proofs.Ytimklokgjmdobaa.Md
