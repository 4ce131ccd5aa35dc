/- A machine with lines ahead of a Push of levels: what such machines share. -/
import Derived.Test.YthnipoikicnlaaaGreatMEnLp
set_option linter.unusedVariables false
set_option linter.unusedSimpArgs false
set_option maxRecDepth 100000
namespace Go.Proofs.YthnipoikicnlaaaGreat.En
open Go Go.RowKit Sx Cn Dc Ck Vc Md
noncomputable section
def findT (j:Nat) (ts:List TypeId):HL->Nat
 | []=>0
 | (k,b)::r=>match b with
  | .fam _ _ _ _ cs=>match Nat.beq cs.length j with
   | true=>k
   | false=>findT j ts r
  | .view _ _ cs=>match Nat.beq cs.length j with
   | true=>k
   | false=>findT j ts r
  | .own t _ _=>match mem t ts with
   | true=>k
   | false=>findT j ts r
  | _=>findT j ts r
def du0:Blk:=.fam true 0 (fun _=>0) (fun _=>0) []
def du2:Blk:=.fam true 0 (fun _=>0) (fun _=>0) [.cu,.cu]
def puB (bm:Int) (w l v:SC) (kj:Nat) (y:Lp) (i:Nat):List Blk:=[lpB w l v (psL i) (psI kj i),match i with
 | 0=>du2
 | _=>psB bm l v y i]
def puF (w l v:SC) (y:Lp) (i:Nat):List (List SC):=match i with
 | 0=>[]
 | _=>psF w l v y i
def puM (i:Nat):Nat:=match i with
 | 0=>1
 | i+1=>psM (i+1)+1
end
end Go.Proofs.YthnipoikicnlaaaGreat.En
