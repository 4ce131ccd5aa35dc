/- A part of the proof. -/
import Derived.Test.YtabiechfpefjhaaGreatMMdAw22D
import Derived.Test.YtabiechfpefjhaaGreatMW
import Derived.Test.YtabiechfpefjhaaGreatMV
import Derived.Test.YtabiechfpefjhaaGreatMMd
import Derived.Test.YtabiechfpefjhaaGreatMNw
set_option linter.unusedVariables false
set_option linter.unusedSimpArgs false
set_option maxRecDepth 100000
open Go.IntKind (i64 u64)
open Int renaming ofNat -> O
open Go.Proofs.YtabiechfpefjhaaGreat.Sx.V renaming need -> U
namespace Go.Proofs.YtabiechfpefjhaaGreat.Md
open Go Go.RowKit Sx Cn Dc Ck Vc
theorem vAw22_eq :V.pr (.t (.t (.t (.t (.t .z))))) (vAw22)=
 nN [(2,.eq 3 3),(1,.eqI 0 0),(1,.eqI 2 2),(1,.le 1 1),(1,.le2 3 3 3 3)]
  (U (∀(i e:Nat),i=0/\e<3->e<3)
  (U (∀(i e:Nat),i=0/\e<3->e=0->O 1=zbu [SC.ki IntKind.u64 (O 1),SC.ki IntKind.u64 (O 6),SC.ki IntKind.u64 (O 4)] e)
  (U (∀(i e:Nat),i=0/\e<3->e=1->O 6=zbu [SC.ki IntKind.u64 (O 1),SC.ki IntKind.u64 (O 6),SC.ki IntKind.u64 (O 4)] e)
  (U (∀(i e:Nat),i=0/\e<3->e=2->O 4=zbu [SC.ki IntKind.u64 (O 1),SC.ki IntKind.u64 (O 6),SC.ki IntKind.u64 (O 4)] e)
  (U (3<=1000000/\∀(j:Nat),j<3->O 0<=zbu [SC.ki IntKind.u64 (O 1),SC.ki IntKind.u64 (O 6),SC.ki IntKind.u64 (O 4)] j/\zbu [SC.ki IntKind.u64 (O 1),SC.ki IntKind.u64 (O 6),SC.ki IntKind.u64 (O 4)] j<=O 18446744073709551615)
  (nN [(2,.eq 3 3),(1,.eqI 0 0),(1,.eqI 1 1),(1,.le 1 1),(1,.le2 3 3 3 3)]
  (U (∀(i e:Nat),i=0/\e<3->e<3)
  (U (∀(i e:Nat),i=0/\e<3->e=0->O 1=zbu [SC.ki IntKind.u64 (O 1),SC.ki IntKind.u64 (O 6),SC.ki IntKind.u64 (O 4)] e)
  (U (∀(i e:Nat),i=0/\e<3->e=1->O 6=zbu [SC.ki IntKind.u64 (O 1),SC.ki IntKind.u64 (O 6),SC.ki IntKind.u64 (O 4)] e)
  (U (∀(i e:Nat),i=0/\e<3->e=2->O 4=zbu [SC.ki IntKind.u64 (O 1),SC.ki IntKind.u64 (O 6),SC.ki IntKind.u64 (O 4)] e)
  (U (3<=1000000/\∀(j:Nat),j<3->O 0<=zbu [SC.ki IntKind.u64 (O 1),SC.ki IntKind.u64 (O 6),SC.ki IntKind.u64 (O 4)] j/\zbu [SC.ki IntKind.u64 (O 1),SC.ki IntKind.u64 (O 6),SC.ki IntKind.u64 (O 4)] j<=O 18446744073709551615)
  (nN [(2,.eq 2 2),(2,.eqI 0 0),(1,.le 1 1),(1,.le2 2 2 2 2)]
  (U (∀(i e:Nat),i=0/\e<2->e<2)
  (U (∀(i e:Nat),i=0/\e<2->e=0->O 1=zbu [SC.ki IntKind.u64 (O 1),SC.ki IntKind.u64 (O 0)] e)
  (U (∀(i e:Nat),i=0/\e<2->e=1->O 0=zbu [SC.ki IntKind.u64 (O 1),SC.ki IntKind.u64 (O 0)] e)
  (U (2<=1000000/\∀(j:Nat),j<2->O 0<=zbu [SC.ki IntKind.u64 (O 1),SC.ki IntKind.u64 (O 0)] j/\zbu [SC.ki IntKind.u64 (O 1),SC.ki IntKind.u64 (O 0)] j<=O 18446744073709551615)
  (nN [qE true,qE true,qE true,qE true,qE true]
  (U True
  (U ((-O 1 == -O 1)=true) V.ok))))))))))))))))))):=by kernel_rfl
theorem vhAw22:zad vAw22:=by
  refine zad.pr (vAw22_eq ..) ?_
  (with_reducible repeat' first|exact V.okI|refine V.brT ?_|refine V.brF ?_|refine V.brI ?_ ?_|refine V.anyI ?_|refine nN_h rfl ?_|refine V.needI ?_ ?_|intro _)
  all_goals first
    | rfl
    | (rename_i h1 h2;subst h2;rfl)
    | (rename_i h1;exact h1.2)
    | decide
    | (rename_i j hj;match j,hj with|0,_|1,_|2,_=>decide)
    | (rename_i j hj;match j,hj with|0,_|1,_=>decide)
    | (refine⟨by decide,fun j hj=>?_⟩
       match j,hj with
       | 0,_|1,_|2,_=>exact⟨by decide,by decide⟩)
    | (refine⟨by decide,fun j hj=>?_⟩
       match j,hj with
       | 0,_|1,_=>exact⟨by decide,by decide⟩)
    | trace_state
theorem aw22_ok:zab P 9 conYes:=conYes_ok (zcb con22a_ok fun _=>vhAw22)
end Go.Proofs.YtabiechfpefjhaaGreat.Md
