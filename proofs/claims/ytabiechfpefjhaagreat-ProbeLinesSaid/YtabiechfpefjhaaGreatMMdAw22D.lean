/- A part of the proof. -/
import Derived.Test.YtabiechfpefjhaaGreatMMdPc
set_option linter.unusedVariables false
set_option linter.unusedSimpArgs false
set_option maxRecDepth 100000
namespace Go.Proofs.YtabiechfpefjhaaGreat.Md
open Go Go.RowKit Sx Cn Dc Ck Vc
noncomputable section
def con22a:Con:=Con.add fCh cCh con0
theorem con22a_ok:zaj P con22a:=.add cCh_ok zaj.nil
def vAw22:V:=verF P con22a 16 12 9 [] .nil [] ⟨[],0,fun _=>True⟩ (psYes.fin 0)
end
end Go.Proofs.YtabiechfpefjhaaGreat.Md
