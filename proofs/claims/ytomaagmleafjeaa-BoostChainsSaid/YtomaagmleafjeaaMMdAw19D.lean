/- The sanity check of chapter 19: what is asked. -/
import Derived.Test.YtomaagmleafjeaaMMd
set_option linter.unusedVariables false
set_option linter.unusedSimpArgs false
set_option maxRecDepth 100000
namespace Go.Proofs.Ytomaagmleafjeaa.Md
open Go Go.RowKit Sx Cn Dc Ck Vc
noncomputable section
def vAw19 : V := vAw 64
end
end Go.Proofs.Ytomaagmleafjeaa.Md
