/- Pop of levels, alone: a model of its steps; what is asked. -/
import Derived.Test.YtomaagmleafjeaaGreatMMdAlC
set_option linter.unusedVariables false
set_option linter.unusedSimpArgs false
set_option linter.unusedVariables false
set_option maxRecDepth 100000
namespace Go.Proofs.YtomaagmleafjeaaGreat.Md
open Go Go.RowKit Sx Cn Dc Ck Vc
/-- The level; the deque, the line, the words of the machine inside; steps; the memory. -/
structure XPo where
  lv : Int
  qt : Int
  qb : Int
  qr : Int
  qc : Int
  ln : Int
  b : Int
  t : Int
  k : Nat
  m : Mm
noncomputable section
end
end Go.Proofs.YtomaagmleafjeaaGreat.Md
