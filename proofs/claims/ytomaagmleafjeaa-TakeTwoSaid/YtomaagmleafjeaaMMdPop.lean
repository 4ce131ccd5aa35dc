/- Pop of levels, alone: the conditions, printed by program. -/
import Derived.Test.YtomaagmleafjeaaMMdPopD
import Derived.Test.YtomaagmleafjeaaMW
import Derived.Test.YtomaagmleafjeaaMMd
set_option linter.unusedVariables false
set_option linter.unusedSimpArgs false
set_option maxRecDepth 100000
namespace Go.Proofs.Ytomaagmleafjeaa.Md
open Go Go.RowKit Sx Cn Dc Ck Vc

end Go.Proofs.Ytomaagmleafjeaa.Md

/- Pop of levels, alone: the conditions hold. -/
set_option maxRecDepth 100000
namespace Go.Proofs.Ytomaagmleafjeaa.Md
open Go Go.RowKit Sx Cn Dc Ck Vc
@[simp] theorem Ly.eta (y : Ly) : Ly.mk y.W y.L y.C y.T y.D y.H y.sl y.ep y.bm y.qu y.tb = y := rfl
theorem quM_c {y : Ly} (hy : y.small) (w l : Int) : (quM y w l).c ≤ 9223372036854775807 := by
  unfold quM
  split
  · exact show (0 : Int) ≤ _ by omega
  · have := hy.D; exact show y.D ≤ _ by omega
end Go.Proofs.Ytomaagmleafjeaa.Md
