/- Claim of the table, its one line with the reference's: what is asked. -/
import Derived.Test.YtmdcgjccknhmoaaGreatMEnG
set_option linter.unusedVariables false
set_option linter.unusedSimpArgs false
set_option maxRecDepth 100000
namespace Go.Proofs.YtmdcgjccknhmoaaGreat.En
open Go Go.RowKit Sx Cn Dc Ck Vc Md
noncomputable section
def argM0 (x:SC) (M:Nat):List SV:=[.c (.ptr 0 (.k 0) (.k 0) 0 26),.c (.ptr 7 (.k 0) (.k 0) 0 21),.c x,.c (.ptr 15 (.k 0) (.k 0) 0 4),.c .nils,.c (.ki .i64 (Int.ofNat M))]
end
end Go.Proofs.YtmdcgjccknhmoaaGreat.En
