/- Bits by the reference: what is asked. -/
import Derived.Test.YtomaagmleafjeaaMMdAlC
set_option linter.unusedVariables false
set_option linter.unusedSimpArgs false
set_option maxRecDepth 100000
namespace Go.Proofs.Ytomaagmleafjeaa.Md
open Go Go.RowKit Sx Cn Dc Ck Vc
structure XPw where
  j : Nat
  p : Int
noncomputable section
end
end Go.Proofs.Ytomaagmleafjeaa.Md
