/- A part of the proof. -/
import Derived.Test.YtabiechfpefjhaaGreatMMdLo
import Derived.Test.YtabiechfpefjhaaGreatMNwMem
import Derived.Test.YtabiechfpefjhaaGreatMW
set_option linter.unusedVariables false
set_option linter.unusedSimpArgs false
set_option maxRecDepth 100000
namespace Go.Proofs.YtabiechfpefjhaaGreat.Md
open Go Go.RowKit Sx Cn Dc Ck Vc
structure Rs where
 c:Int
 v:Int
 k:Int
 m:Mm
def sz(b t:Int):Int:=IntKind.i64.wrap (IntKind.u64.wrap (b-t))
def hiB(x:Int):Int:=IntKind.i64.wrap ((Lib.bitLen x.toNat:Int)-1)
noncomputable section
def zfl(k f:Nat)(h:HL):Option Int:=(zax k f h).bind numC
end
end Go.Proofs.YtabiechfpefjhaaGreat.Md
