/- A part of the proof. -/
import Derived.Test.YtabiechfpefjhaaGreatMMdAl
set_option linter.unusedVariables false
set_option linter.unusedSimpArgs false
set_option maxRecDepth 100000
namespace Go.Proofs.YtabiechfpefjhaaGreat.Md
open Go Go.RowKit Sx Cn Dc Ck Vc
def pkB(d a t:Int):Bool:=decide ((0<=d/\d<=16777215)/\(0<=a/\a<=16777215)/\0<=t/\t<=65535)
def pkW(d a t:Int):Int:=bif pkB d a t then d*1099511627776+a*65536+t else 0
end Go.Proofs.YtabiechfpefjhaaGreat.Md
