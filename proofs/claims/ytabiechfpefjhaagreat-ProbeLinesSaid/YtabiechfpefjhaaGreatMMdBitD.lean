/- A part of the proof. -/
import Derived.Test.YtabiechfpefjhaaGreatMMdAl
set_option linter.unusedVariables false
set_option linter.unusedSimpArgs false
set_option maxRecDepth 100000
namespace Go.Proofs.YtabiechfpefjhaaGreat.Md
open Go Go.RowKit Sx Cn Dc Ck Vc
structure XPw where
 j:Nat
 p:Int
def bitB(x v:Int):Bool:=decide (x.toNat / 2 ^ v.toNat % 2=1)
noncomputable section
def fPow:FuncId:=111
def fRBit:FuncId:=113
def laPw(i:Nat)(s:St):Option (LA XPw):=some ⟨[],fun _=>[],[0,3],fun x=>[.c (i6 x.j),.c (uw x.p)],fun s=>match tmI 0 s,tmI 3 s with
  | some j,some p=>some ⟨j.toNat,p⟩
  | _,_=>none,fun x=>x.j<=i/\x.p=2 ^ (i-x.j),fun x=>x.j⟩
def vPow(i:Nat):V:=verF P con0 3 4 fPow [] (.loop XPw [] (laPw i) .nil .nil) [iv i] ⟨[],0,fun _=>True⟩ (finI .u64 fun r=>r=2 ^ i)
def cPow:List SV->Hp->Out (SV×Hp):=numF fPow fun l=>match l with
 | [i]=>useP [] 0 [iv (i.toNat:Nat)] [] (.need (0<=i/\i<=63) (.any Int (fun r=>r=2 ^ i.toNat) fun r=>.leaf (.c (.iv .u64 r),⟨[],0,fun _=>True⟩)))
 | _=>fun _ _=>.bad 484
def conPw:Con:=Con.add fPow cPow con0
def vRBit(x v:Int):V:=verF P conPw 3 6 fRBit [] .nil [.c (uw x),iv v] ⟨[],0,fun _=>True⟩ (finV (X:=Unit) 0 0 (fun _ _=>some ()) (fun _ _=>[]) (fun _=>True) (fun _=>.c (.bv (bitB x v))) (fun _=>[]))
end
end Go.Proofs.YtabiechfpefjhaaGreat.Md
