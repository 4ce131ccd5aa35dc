/- Branches that cannot be. -/
import Derived.Test.YtomaagmleafjeaaMMd
set_option linter.unusedVariables false
set_option linter.unusedSimpArgs false
namespace Go.Proofs.Ytomaagmleafjeaa.Md
open Go Go.RowKit Sx Cn Dc Ck Vc
theorem dlt {a b : Int} (hc : ¬ a < b) {I : Decidable (a < b)} (h : @decide (a < b) I = true) : False := hc (of_decide_eq_true h)
end Go.Proofs.Ytomaagmleafjeaa.Md
