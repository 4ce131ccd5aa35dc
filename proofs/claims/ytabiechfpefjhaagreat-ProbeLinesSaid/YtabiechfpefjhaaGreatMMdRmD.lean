/- A part of the proof. -/
import Derived.Test.YtabiechfpefjhaaGreatMMdInD
import Derived.Test.YtabiechfpefjhaaGreatMMd
set_option linter.unusedVariables false
set_option linter.unusedSimpArgs false
set_option maxRecDepth 100000
namespace Go.Proofs.YtabiechfpefjhaaGreat.Md
open Go Go.RowKit Sx Cn Dc Ck Vc
def tkW(x:Int):Int:=IntKind.i64.wrap (bits .and .u64 x 65535)
structure El where
 n:Nat
 v:Evs
def El.put(l:El)(k w t:Int):El:=⟨l.n+1,⟨fun e=>if e=l.n then k else l.v.k e,fun e=>if e=l.n then w else l.v.w e,fun e=>if e=l.n then t else l.v.t e,fun e=>if e=l.n then 0 else l.v.o e,fun e=>if e=l.n then 0 else l.v.l e⟩⟩
end Go.Proofs.YtabiechfpefjhaaGreat.Md
