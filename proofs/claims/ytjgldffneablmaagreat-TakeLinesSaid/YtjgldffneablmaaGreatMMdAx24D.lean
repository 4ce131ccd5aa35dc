/- A part of the proof. -/
import Derived.Test.YtjgldffneablmaaGreatMMd
import Derived.Test.YtjgldffneablmaaGreatMNwMem
set_option linter.unusedVariables false
set_option linter.unusedSimpArgs false
set_option maxRecDepth 100000
namespace Go.Proofs.YtjgldffneablmaaGreat.Md
open Go Go.RowKit Sx Cn Dc Ck Vc
noncomputable section
def conWLx:Con:=Con.add 185 conLen conWL
theorem conWLx_ok:zak P conWLx:=.add conLen_ok conWL_ok
def vAx24:V:=verF P conWLx 16 12 9 [] .nil [] ⟨[],0,fun _=>True⟩ (psYes.fin 0)
end
end Go.Proofs.YtjgldffneablmaaGreat.Md
