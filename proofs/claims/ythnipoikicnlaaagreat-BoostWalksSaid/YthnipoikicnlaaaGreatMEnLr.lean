/- Push of levels within a round: what holds. -/
import Derived.Test.YthnipoikicnlaaaGreatMEnLp
set_option linter.unusedVariables false
set_option linter.unusedSimpArgs false
set_option maxRecDepth 100000
namespace Go.Proofs.YthnipoikicnlaaaGreat.En
open Go Go.RowKit Sx Cn Dc Ck Vc Md
theorem quN_c {c:Cf} {v:Ev} (h:okMq c v) {p q w l:Int}:(quN p q c.C c.D c.H w l).c<=64:=by
 have h1:=h.1.2.2.2.2.1
 unfold quN
 split
 ·show (0:Int)<=64; decide
 ·show c.D<=64; omega
theorem q_tn3 {c:Cf} {v:Ev} {t:Int} (h:okMq c v) (h1:decide (t < c.T)=true) (h2:(!decide (t < (v.x.n:Int)))=true):False:=q_tn h (by rw [h1]; rfl) h2
theorem tk_n1 {t T:Int} (h:0<=t/\t < T) (h1:decide (t < T)=false):False:=of_decide_eq_false h1 h.2
theorem tk_n2 {t T:Int} (h:0<=t/\t < T) (h1:decide (t >= Int.ofNat 0)=false):False:=of_decide_eq_false h1 h.1
end Go.Proofs.YthnipoikicnlaaaGreat.En
