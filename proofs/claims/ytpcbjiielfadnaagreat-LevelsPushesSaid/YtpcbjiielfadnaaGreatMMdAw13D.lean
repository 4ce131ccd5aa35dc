/- The sanity check of chapter 13: what is asked. -/
import Derived.Test.YtpcbjiielfadnaaGreatMMd
import Derived.Test.YtpcbjiielfadnaaGreatMNwMem
set_option linter.unusedVariables false
set_option linter.unusedSimpArgs false
set_option maxRecDepth 100000
namespace Go.Proofs.YtpcbjiielfadnaaGreat.Md
open Go Go.RowKit Sx Cn Dc Ck Vc
noncomputable section
def conWLn:Con:=Con.add 184 conLen conWL
theorem conWLn_ok:zaj P conWLn:=.add conLen_ok conWL_ok
def vAw13:V:=verF P conWLn 16 12 9 [] .nil [] ⟨[],0,fun _=>True⟩ (psYes.fin 0)
end
end Go.Proofs.YtpcbjiielfadnaaGreat.Md
