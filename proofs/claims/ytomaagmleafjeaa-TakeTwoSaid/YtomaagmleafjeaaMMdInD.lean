/- Insert of the injector, alone: a model of its steps; what is asked. -/
import Derived.Test.YtomaagmleafjeaaMMdAlC
set_option linter.unusedVariables false
set_option linter.unusedSimpArgs false
set_option maxRecDepth 100000
namespace Go.Proofs.Ytomaagmleafjeaa.Md
open Go Go.RowKit Sx Cn Dc Ck Vc
/-- The line, the machine's numbers and words; steps; the memory. -/
structure XIn where
  ln : Int
  n : Int
  i : Int
  k : Int
  x : Int
  s : Nat
  m : Mm
noncomputable section
end
end Go.Proofs.Ytomaagmleafjeaa.Md
