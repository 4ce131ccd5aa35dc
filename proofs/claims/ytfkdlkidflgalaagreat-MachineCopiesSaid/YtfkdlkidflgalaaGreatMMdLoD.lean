/- Places of cells, whether they are there or not: what is asked. -/
import Derived.Test.YtfkdlkidflgalaaGreatMMd
set_option linter.unusedVariables false
set_option linter.unusedSimpArgs false
set_option maxRecDepth 100000
namespace Go.Proofs.YtfkdlkidflgalaaGreat.Md
open Go Go.RowKit Sx Cn Dc Ck Vc
structure Qu where
 t:Int
 b:Int
 r:Int
 c:Int
noncomputable section
end
end Go.Proofs.YtfkdlkidflgalaaGreat.Md
