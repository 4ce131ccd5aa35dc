/- A part of the proof. -/
import Derived.Test.YtjgldffneablmaaGreatMEnLp
import Derived.Test.YtjgldffneablmaaGreatMEnG
set_option linter.unusedVariables false
set_option linter.unusedSimpArgs false
set_option maxRecDepth 100000
namespace Go.Proofs.YtjgldffneablmaaGreat.En
open Go Go.RowKit Sx Cn Dc Ck Vc Md
noncomputable section
def tPo:TypeId:=150
def tOo:TypeId:=227
def tCl:TypeId:=224
def quX(c:Cf)(w l:Int):Qu:=quN c.W c.L c.C c.D c.H w l
def poB(w lv ln ins:SC):Blk:=.own 152 7 ([.kb false,.ki .i64 0,.ki .i64 0,w,lv,ln,ins].map some)
def ooB(q:Qu)(ln b t:SC):Blk:=.own 229 10 ([.kb false,.ki .i64 0,.ki .i64 0,i6 q.t,i6 q.b,i6 q.r,i6 q.c,ln,b,t].map some)
def reB(e co cell bit:SC)(q:Qu)(ln b:SC):Blk:=.own 226 11 ([e,co,.ki .i64 0,cell,bit,i6 q.t,i6 q.b,i6 q.r,i6 q.c,ln,b].map some)
def fPp(w lv ln u:SC):List SC:=frR 6 ln z6 z6 z6 z6 w z6 z6 lv z6 z6 z6 u zU zU zU
def fOo(q:Qu)(ln b t:SC):List SC:=frR 1 ln (i6 q.t) (i6 q.b) (i6 q.r) (i6 q.c) z6 z6 z6 z6 z6 z6 z6 b t zU zU
def fRe(cell bit:SC)(q:Qu)(ln b t:SC):List SC:=frR 4 ln (i6 q.t) (i6 q.b) (i6 q.r) (i6 q.c) cell bit z6 z6 z6 z6 z6 b t zU zU
def litN:Option SC->Nat
 | some (.ki _ n)=>n.toNat
 | _=>99
def headC:Col->Option Int
 | .ck (a::_)=>numC a
 | _=>none
def nthC(i:Nat):Col->Option Int
 | .ck l=>(l[i]?).bind numC
 | _=>none
def frN(t:Nat)(s:St):Nat:=match ceS (tmK t s) 0 s.H.h with
 | some (_,n,_)=>n
 | none=>0
def atZ(m:Nat):List Nat->Nat->Nat
 | [],_=>98
 | a::l,i=>match Nat.beq a m with
  | true=>i
  | false=>atZ m l (i+1)
end
end Go.Proofs.YtjgldffneablmaaGreat.En
