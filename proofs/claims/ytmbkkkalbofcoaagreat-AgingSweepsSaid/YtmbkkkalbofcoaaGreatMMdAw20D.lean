/- The sanity check of chapter 20: what is asked. -/
import Derived.Test.YtmbkkkalbofcoaaGreatMMd
set_option linter.unusedVariables false
set_option linter.unusedSimpArgs false
set_option maxRecDepth 100000
namespace Go.Proofs.YtmbkkkalbofcoaaGreat.Md
open Go Go.RowKit Sx Cn Dc Ck Vc
noncomputable section
def vAw20:V:=vAw 9
end
end Go.Proofs.YtmbkkkalbofcoaaGreat.Md
