/- A part of the proof. -/
import Derived.Test.YtjgldffneablmaaGreatMEnG
set_option linter.unusedVariables false
set_option linter.unusedSimpArgs false
set_option maxRecDepth 100000
namespace Go.Proofs.YtjgldffneablmaaGreat.En
open Go Go.RowKit Sx Cn Dc Ck Vc Md
structure Lp where
 t:Int
 b:Int
 r:Int
 c:Int
 x:Int
 z:Int
 cf:Nat
noncomputable section
def frR(kind:Int)(ln q0 q1 q2 q3 a b d i j n t u v w x:SC):List SC:=[.ki .i64 kind,ln,q0,q1,q2,q3,a,b,d,i,j,n,t,u,v,w,x,.nils]
def frL(l:List (List SC)):List Col:=(List.range 18).map fun i=>.ck (l.map fun r=>(r[i]?).getD z6)
def k6(n:Nat):SC:=.ki .i64 (Int.ofNat n)
def maL(t:Nat)(s:St):Option (List (List SC)->Nat->Nat->List Blk):=match find (tmK t s) s.H.h,find (frKi t s) s.H.h with
 | some (.own tm sm (_::rest)),some (.row tf _ _ _)=>fN (frKi t s) fun kf=>some fun l m cf=>fN l.length fun n=>fN m fun m=>[.own tm sm (some (.slc kf (.k 0) (.k 0) 18 (.k m) (.s cf))::rest),.row tf cf n (frL l)]
 | _,_=>none
end
end Go.Proofs.YtjgldffneablmaaGreat.En
