/- A part of the proof. -/
import Derived.Test.YtjgldffneablmaaGreatMEnLp
set_option linter.unusedVariables false
set_option linter.unusedSimpArgs false
set_option maxRecDepth 100000
namespace Go.Proofs.YtjgldffneablmaaGreat.En
open Go Go.RowKit Sx Cn Dc Ck Vc Md
noncomputable section
def findT(j:Nat)(ts:List TypeId):HL->Nat
 | []=>0
 | (k,b)::r=>match b with
  | .fam _ _ _ _ cs=>match Nat.beq cs.length j with
   | true=>k
   | false=>findT j ts r
  | .view _ _ cs=>match Nat.beq cs.length j with
   | true=>k
   | false=>findT j ts r
  | .own t _ _=>match mem t ts with
   | true=>k
   | false=>findT j ts r
  | _=>findT j ts r
def du0:Blk:=.fam true 0 (fun _=>0) (fun _=>0) []
end
end Go.Proofs.YtjgldffneablmaaGreat.En
