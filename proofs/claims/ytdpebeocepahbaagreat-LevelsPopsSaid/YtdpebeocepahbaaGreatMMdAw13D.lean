/- The sanity check of chapter 13: what is asked. -/
import Derived.Test.YtdpebeocepahbaaGreatMMd
import Derived.Test.YtdpebeocepahbaaGreatMNwMem
set_option linter.unusedVariables false
set_option linter.unusedSimpArgs false
set_option maxRecDepth 100000
namespace Go.Proofs.YtdpebeocepahbaaGreat.Md
open Go Go.RowKit Sx Cn Dc Ck Vc
noncomputable section
def conWLn:Con:=Con.add 180 conLen conWL
theorem conWLn_ok:zak P conWLn:=.add conLen_ok conWL_ok
def vAw13:V:=verF P conWLn 16 12 9 [] .nil [] ⟨[],0,fun _=>True⟩ (psYes.fin 0)
end
end Go.Proofs.YtdpebeocepahbaaGreat.Md
