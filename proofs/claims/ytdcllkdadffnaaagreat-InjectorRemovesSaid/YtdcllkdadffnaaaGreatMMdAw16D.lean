/- The sanity check of chapter 16: what is asked. -/
import Derived.Test.YtdcllkdadffnaaaGreatMMd
import Derived.Test.YtdcllkdadffnaaaGreatMMdInK
import Derived.Test.YtdcllkdadffnaaaGreatMMdNewN
set_option linter.unusedVariables false
set_option linter.unusedSimpArgs false
set_option maxRecDepth 100000
namespace Go.Proofs.YtdcllkdadffnaaaGreat.Md
open Go Go.RowKit Sx Cn Dc Ck Vc
noncomputable section
def conIA:Con:=Con.add fAl cAlI (conN conWN)
theorem conIA_ok:zaj P conIA:=.add cAlI_ok (conN_ok conWN_ok)
def vAw16:V:=verF P conIA 16 12 8 [(6,gEv 1)] .nil [] ⟨[],0,fun _=>True⟩ (psYes.fin 0)
end
end Go.Proofs.YtdcllkdadffnaaaGreat.Md
