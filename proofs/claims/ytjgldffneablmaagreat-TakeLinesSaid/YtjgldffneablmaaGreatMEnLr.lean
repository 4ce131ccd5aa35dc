/- A part of the proof. -/
import Derived.Test.YtjgldffneablmaaGreatMEnLp
set_option linter.unusedVariables false
set_option linter.unusedSimpArgs false
set_option maxRecDepth 100000
namespace Go.Proofs.YtjgldffneablmaaGreat.En
open Go Go.RowKit Sx Cn Dc Ck Vc Md
theorem quN_c{c:Cf}{v:Ev}(h:okMq c v){p q w l:Int}:(quN p q c.C c.D c.H w l).c<=64:=by
 have h1:=h.1.2.2.2.2.1
 unfold quN
 split
 ·show(0:Int)<=64;decide
 ·show c.D<=64;omega
end Go.Proofs.YtjgldffneablmaaGreat.En
