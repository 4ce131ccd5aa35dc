/- A part of the proof. -/
import Derived.Test.YtabiechfpefjhaaGreatMMdInD
import Derived.Test.YtabiechfpefjhaaGreatMMd
set_option linter.unusedVariables false
set_option linter.unusedSimpArgs false
set_option maxRecDepth 100000
namespace Go.Proofs.YtabiechfpefjhaaGreat.Md
open Go Go.RowKit Sx Cn Dc Ck Vc
theorem pk_f{d a t:Int}(h:¬((0<=d/\d<=16777215)/\(0<=a/\a<=16777215)/\0<=t/\t<=65535)):(Int.ofNat 0,false)=(pkW d a t,pkB d a t):=by
 have e:pkB d a t=false:=decide_eq_false h
 unfold pkW
 rw[e]
 rfl
theorem pk_t{d a t:Int}(h:(0<=d/\d<=16777215)/\(0<=a/\a<=16777215)/\0<=t/\t<=65535):pkB d a t=true/\pkW d a t=d*1099511627776+a*65536+t:=by
 have e:pkB d a t=true:=decide_eq_true h
 unfold pkW
 rw[e]
 exact⟨rfl,rfl⟩
end Go.Proofs.YtabiechfpefjhaaGreat.Md
