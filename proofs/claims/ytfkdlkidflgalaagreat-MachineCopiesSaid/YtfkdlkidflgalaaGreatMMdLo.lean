/- Places of cells: the conditions, printed by program. -/
import Derived.Test.YtfkdlkidflgalaaGreatMMdLoD
import Derived.Test.YtfkdlkidflgalaaGreatMW
set_option linter.unusedVariables false
set_option linter.unusedSimpArgs false
set_option maxRecDepth 100000
namespace Go.Proofs.YtfkdlkidflgalaaGreat.Md
open Go Go.RowKit Sx Cn Dc Ck Vc
structure Ly.small (y:Ly):Prop where
 W:0<=y.W/\y.W<=16
 L:0<=y.L/\y.L<=64
 D:0<=y.D/\y.D<=64
 q:0<=y.qu/\y.qu<=1000
theorem Ly.small.q3 {y:Ly} (h:y.small):0<=y.L * (2+y.D)/\y.L * (2+y.D)<=4224:=mulB (A:=64) (B:=66) h.L.1 h.L.2 (by have:=h.D; omega) (by have:=h.D; omega)
theorem Ly.small.q1 {y:Ly} (h:y.small) {w:Int} (h0:0<=w) (h1:w < y.W):0<=w * (y.L * (2+y.D))/\w * (y.L * (2+y.D))<=16 * 4224:=mulB h0 (by have:=h.W; omega) h.q3.1 h.q3.2
theorem Ly.small.q2 {y:Ly} (h:y.small) {l:Int} (h0:0<=l) (h1:l < y.L):0<=l * (2+y.D)/\l * (2+y.D)<=64 * 66:=mulB h0 (by have:=h.L; omega) (by have:=h.D; omega) (by have:=h.D; omega)
noncomputable section
end
end Go.Proofs.YtfkdlkidflgalaaGreat.Md
