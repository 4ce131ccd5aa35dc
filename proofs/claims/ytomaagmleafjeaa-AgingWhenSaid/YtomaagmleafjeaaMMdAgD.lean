/- AgingWhen: the law: what is asked. -/
import Derived.Test.YtomaagmleafjeaaMMdAw20
import Derived.Test.YtomaagmleafjeaaMMdWt
import Derived.Test.YtomaagmleafjeaaMMdEt
import Derived.Test.YtomaagmleafjeaaMMdTk
import Derived.Test.YtomaagmleafjeaaMMdSwD
set_option linter.unusedVariables false
set_option linter.unusedSimpArgs false
set_option linter.unusedVariables false
set_option maxRecDepth 100000
namespace Go.Proofs.Ytomaagmleafjeaa.Md
open Go Go.RowKit Sx Cn Dc Ck Vc
noncomputable section
def conAg : Con := Con.add fAl cAlS (Con.add fWt cWt (Con.add 74 conYes (Con.add fEnt cEnt (Con.add fClW cClW (Con.add fTk cTk conNL)))))
def verAg (age level since more task : Int) : V := verF P conAg 16 12 16 [(7, gEv 16)] .nil [.c (.iv .u8 age), .c (.iv .u8 level), .c (.iv .u8 since), .c (.iv .u8 more), .c (.iv .u8 task)] ⟨[], 0, fun _ => True⟩ yesV
end
end Go.Proofs.Ytomaagmleafjeaa.Md
