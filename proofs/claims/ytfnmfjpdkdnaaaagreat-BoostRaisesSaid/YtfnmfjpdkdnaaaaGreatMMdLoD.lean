/- Places of cells, whether they are there or not: what is asked. -/
import Derived.Test.YtfnmfjpdkdnaaaaGreatMMd
set_option linter.unusedVariables false
set_option linter.unusedSimpArgs false
set_option maxRecDepth 100000
namespace Go.Proofs.YtfnmfjpdkdnaaaaGreat.Md
open Go Go.RowKit Sx Cn Dc Ck Vc
def atM (i n f w:Int):Int:=if i < 0\/n<=i then -1 else f+i * w
structure Qu where
 t:Int
 b:Int
 r:Int
 c:Int
noncomputable section
end
end Go.Proofs.YtfnmfjpdkdnaaaaGreat.Md
