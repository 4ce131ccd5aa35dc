/- A part of the proof. -/
import Derived.Test.YtabiechfpefjhaaGreatMMd
set_option linter.unusedVariables false
set_option linter.unusedSimpArgs false
set_option maxRecDepth 100000
namespace Go.Proofs.YtabiechfpefjhaaGreat.Md
open Go Go.RowKit Sx Cn Dc Ck Vc
def atM(i n f w:Int):Int:=if i<0\/n<=i then -1 else f+i*w
structure Qu where
 t:Int
 b:Int
 r:Int
 c:Int
noncomputable section
def vAtT(i n f w:Int):V:=verF P con0 3 4 fAt [] .nil [iv i,iv n,iv f,iv w] ⟨[],0,fun _=>True⟩ (finI .i64 fun r=>r=atM i n f w)
end
end Go.Proofs.YtabiechfpefjhaaGreat.Md
