/- Machines that run alone: what a run is; an environment that is read. -/
import Derived.Test.YtfkdlkidflgalaaGreatMMdLo
import Derived.Test.YtfkdlkidflgalaaGreatMNwMem
import Derived.Test.YtfkdlkidflgalaaGreatMW
set_option linter.unusedVariables false
set_option linter.unusedSimpArgs false
set_option maxRecDepth 100000
namespace Go.Proofs.YtfkdlkidflgalaaGreat.Md
open Go Go.RowKit Sx Cn Dc Ck Vc
structure Rs where
 c:Int
 v:Int
 k:Int
 m:Mm
def sz (b t:Int):Int:=IntKind.i64.wrap (IntKind.u64.wrap (b - t))
noncomputable section
end
end Go.Proofs.YtfkdlkidflgalaaGreat.Md
