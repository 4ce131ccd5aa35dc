/- DrainBusy: the law: what is asked. -/
import Derived.Test.YtomaagmleafjeaaGreatMMdAw23
import Derived.Test.YtomaagmleafjeaaGreatMMdEt
set_option linter.unusedVariables false
set_option linter.unusedSimpArgs false
set_option linter.unusedVariables false
set_option maxRecDepth 100000
namespace Go.Proofs.YtomaagmleafjeaaGreat.Md
open Go Go.RowKit Sx Cn Dc Ck Vc
noncomputable section
def con23 : Con := Con.add 7 conYes (Con.add fAl cAlZ (Con.add fFil cFl (Con.add fEnt cEnt (Con.add fClW cClW (conN conWN)))))
theorem con23_ok : ConOK P con23 := .add aw23_ok (.add cAlZ_ok (.add cFl_ok (.add cEnt_ok (.add cClW_ok (conN_ok conWN_ok)))))
end
end Go.Proofs.YtomaagmleafjeaaGreat.Md
