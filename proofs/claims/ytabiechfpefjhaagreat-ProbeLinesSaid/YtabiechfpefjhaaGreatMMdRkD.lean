/- A part of the proof. -/
import Derived.Test.YtabiechfpefjhaaGreatMMdRmD
import Derived.Test.YtabiechfpefjhaaGreatMMdBit
set_option linter.unusedVariables false
set_option linter.unusedSimpArgs false
set_option maxRecDepth 100000
namespace Go.Proofs.YtabiechfpefjhaaGreat.Md
open Go Go.RowKit Sx Cn Dc Ck Vc
noncomputable section
def cPowA:List SV->Hp->Out (SV×Hp):=fun args H=>match args with
 | [.c x]=>match numC x with
  | some i=>useP [] 0 [iv (i.toNat:Nat)] [] (.need (0<=i/\i<=63) (.any Int (fun r=>r=2 ^ i.toNat) fun r=>.leaf (.c (.iv .u64 r),⟨[],0,fun _=>True⟩))) args H
  | none=>.bad 484
 | _=>.bad 485
theorem cPowA_ok:zab P fPow cPowA:=zac fun args H=>by
 unfold cPowA
 repeat' split
 all_goals first|exact .inl ⟨_,rfl⟩|exact .inr ⟨_,_,_,_,_,rfl,zae zaj.nil fun h=>vhPow (by omega)⟩
def conPk:Con:=Con.add fPow cPowA con0
theorem conPk_ok:zaj P conPk:=.add cPowA_ok zaj.nil
def fRP:FuncId:=114
def fRU:FuncId:=117
def vRP(d a t:Int):V:=verF P conPk 3 4 fRP [] .nil [iv d,iv a,iv t] ⟨[],0,fun _=>True⟩
 (finV (X:=Int×Bool) 0 0 (fun s _=>match s with|.t [.c a,.c b]=>(match numC a,asB (.c b) with|some a,some b=>some (a,b.2)|_,_=>none)|_=>none) (fun _ _=>[]) (fun p=>p=(pkW d a t,pkB d a t)) (fun p=>.t [.c (uw p.1),.c (.bv p.2)]) (fun _=>[]))
def vRU(k:Int):V:=verF P conPk 3 4 fRU [] .nil [.c (uw k)] ⟨[],0,fun _=>True⟩
 (finV (X:=Int×Int×Int) 0 0 (fun s _=>match s with|.t [.c a,.c b,.c c]=>(match numC a,numC b,numC c with|some a,some b,some c=>some (a,b,c)|_,_,_=>none)|_=>none) (fun _ _=>[]) (fun p=>p.2.2=tkW k) (fun p=>.t [.c (i6 p.1),.c (i6 p.2.1),.c (i6 p.2.2)]) (fun _=>[]))
end
end Go.Proofs.YtabiechfpefjhaaGreat.Md
