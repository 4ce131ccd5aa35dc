/- The sanity check of chapter 19: what is asked. -/
import Derived.Test.YthnipoikicnlaaaGreatMMd
set_option linter.unusedVariables false
set_option linter.unusedSimpArgs false
set_option maxRecDepth 100000
namespace Go.Proofs.YthnipoikicnlaaaGreat.Md
open Go Go.RowKit Sx Cn Dc Ck Vc
noncomputable section
def vAw19:V:=vAw 9
end
end Go.Proofs.YthnipoikicnlaaaGreat.Md
