/- A part of the proof. -/
import Derived.Test.YtabiechfpefjhaaGreatMMdPcL
import Derived.Test.YtabiechfpefjhaaGreatMMd
import Derived.Test.YtabiechfpefjhaaGreatMNwMem
set_option linter.unusedVariables false
set_option linter.unusedSimpArgs false
set_option maxRecDepth 100000
namespace Go.Proofs.YtabiechfpefjhaaGreat.Md
open Go Go.RowKit Sx Cn Dc Ck Vc
noncomputable section
def fHg:FuncId:=52
def cnHg:Con:=Con.add 65 conLen con0
theorem cnHg_ok:zaj P cnHg:=.add conLen_ok zaj.nil
def vHg(x:Int):V:=verF P cnHg 3 6 fHg [] .nil [.c (uw x)] ⟨[],0,fun _=>True⟩ (fin1 0 (.c (.iv .i64 (hiB x))))
def cHg:List SV->Hp->Out (SV×Hp):=numF fHg fun l=>match l with
 | [x]=>useP [] 0 [.c (uw x)] [] (.need (0<=x/\x<=18446744073709551615) (.leaf (.c (.iv .i64 (hiB x)),⟨[],0,fun _=>True⟩)))
 | _=>fun _ _=>.bad 484
def fMo:FuncId:=51
def vMo(a n:Int):V:=verF P con0 3 4 fMo [] .nil [iv a,iv n] ⟨[],0,fun _=>True⟩ (fin1 0 (.c (.iv .i64 (dr a n))))
def cMo:List SV->Hp->Out (SV×Hp):=numF fMo fun l=>match l with
 | [a,n]=>useP [] 0 [iv a,iv n] [] (.need (n<=9223372036854775807) (.leaf (.c (.iv .i64 (dr a n)),⟨[],0,fun _=>True⟩)))
 | _=>fun _ _=>.bad 484
def fCh:FuncId:=28
def cnCh:Con:=Con.add fHg cHg (Con.add fMo cMo con0)
def laCh(B:Nat->Int)(n:Nat)(self s:Int):LA Int:=⟨[],fun _=>[],[15,6,7],fun x=>[iv x,iv (zas B n self (dr s n) x.toNat).1,iv (zas B n self (dr s n) x.toNat).2],tmI 15,fun x=>0<=x/\x<=n,fun x=>n-x.toNat⟩
def svCh(B:Nat->Int)(n:Nat)(self s:Int):SV:=.t [.c (i6 (zas B n self (dr s n) n).1),.c (i6 (zas B n self (dr s n) n).2)]
def vCh(B:Nat->Int)(n cap:Nat)(self s:Int):V:=verF P cnCh 3 6 fCh [] (.loop Int [] (fun _=>some (laCh B n self s)) .nil .nil) [.c (slK 0 1 n cap),iv self,iv s] ⟨[(0,.view 1 (fun _=>n) [.ci .u64 fun _ e=>B e])],1,fun _=>True⟩ (fin1 1 (svCh B n self s))
def tPr:TypeId:=102
structure A16 where
 a0:Int
 a1:Int
 a2:Int
 a3:Int
 a4:Int
 a5:Int
 a6:Int
 a7:Int
 a8:Int
 a9:Int
 a10:Int
 a11:Int
 a12:Int
 a13:Int
 a14:Int
 a15:Int
def A16.get(A:A16)(j:Nat):Int:=numL [A.a0,A.a1,A.a2,A.a3,A.a4,A.a5,A.a6,A.a7,A.a8,A.a9,A.a10,A.a11,A.a12,A.a13,A.a14,A.a15] j
def prC(A:A16):List (Option SC):=[some (uw A.a0),some (uw A.a1),some (uw A.a2),some (uw A.a3),some (uw A.a4),some (uw A.a5),some (uw A.a6),some (uw A.a7),some (uw A.a8),some (uw A.a9),some (uw A.a10),some (uw A.a11),some (uw A.a12),some (uw A.a13),some (uw A.a14),some (uw A.a15)]
structure Pr where
 e:Bool
 co:Int
 va:Int
 w:Int
 b:Bool
 st:Int
 nx:Int
def prB(p:Pr)(A:A16):Blk:=.own tPr 23 ([.bv p.e,i6 p.co,i6 p.va,i6 p.w,.bv p.b,i6 p.st,i6 p.nx].map some++prC A)
def laChO(p:Pr)(A:A16)(n:Nat)(self s:Int):LA Int:=⟨[(fun _=>0,true)],fun _=>[prB p A],[15,6,7],fun x=>[iv x,iv (zas A.get n self (dr s n) x.toNat).1,iv (zas A.get n self (dr s n) x.toNat).2],tmI 15,fun x=>0<=x/\x<=n,fun x=>n-x.toNat⟩
def vChO(p:Pr)(A:A16)(n:Nat)(self s:Int):V:=verF P cnCh 3 6 fCh [] (.loop Int [] (fun _=>some (laChO p A n self s)) .nil .nil) [.c (.slc 0 (.k 0) (.k 7) 1 (.s n) (.k 16)),iv self,iv s] ⟨[(0,prB p A)],1,fun _=>True⟩ (finV (X:=Unit) 1 1 (fun _ _=>some ()) (fun _ _=>[]) (fun _=>True) (fun _=>svCh A.get n self s) (fun _=>[(0,prB p A)]))
def boolC(c:SC):Option Bool:=(asB (.c c)).map fun r=>r.2
def toA(L:List Int):Option A16:=match L with
 | [x0,x1,x2,x3,x4,x5,x6,x7,x8,x9,x10,x11,x12,x13,x14,x15]=>some ⟨x0,x1,x2,x3,x4,x5,x6,x7,x8,x9,x10,x11,x12,x13,x14,x15⟩
 | _=>none
def rdPr(k:Nat)(h:HL):Option (Pr×A16):=match find k h with
 | some (.own _ _ (some a::some b::some c::some d::some e::some f::some g::l))=>match boolC a,numC b,numC c,numC d,boolC e,numC f,numC g,numsK l with
  | some a,some b,some c,some d,some e,some f,some g,some (_,L)=>(toA L).map fun A=>(⟨a,b,c,d,e,f,g⟩,A)
  | _,_,_,_,_,_,_,_=>none
 | _=>none
def cChO:List SV->Hp->Out (SV×Hp):=fun args H=>match args with
 | [.c (.slc k _ _ _ n _),.c a,.c b]=>fN k fun k=>match rdPr k H.h,numC a,numC b with
  | some (p,A),some self,some s=>useP [k] 1 [.c (.slc 0 (.k 0) (.k 7) 1 (.s n.v) (.k 16)),iv self,iv s] [(0,prB p A)] (.need (n.v<=16/\∀j,j<n.v->0<=A.get j/\A.get j<=18446744073709551615) (.leaf (svCh A.get n.v self s,⟨[(0,prB p A)],1,fun _=>True⟩))) args H
  | _,_,_=>.bad 436
 | _=>.bad 437
def cCh:List SV->Hp->Out (SV×Hp):=fun args H=>match args with
 | [.c (.slc k _ _ _ n cap),.c a,.c b]=>fN k fun k=>match rowFn H.h k 0,numC a,numC b with
  | some B,some self,some s=>useP [k] 1 [.c (slK 0 1 n.v cap.v),iv self,iv s] [(0,.view 1 (fun _=>n.v) [.ci .u64 fun _ e=>B e])] (.need (n.v<=1000000/\∀j,j<n.v->0<=B j/\B j<=18446744073709551615) (.leaf (svCh (fun j=>B j) n.v self s,⟨[],1,fun _=>True⟩))) args H
  | _,_,_=>.bad 436
 | _=>.bad 437
end
end Go.Proofs.YtabiechfpefjhaaGreat.Md
