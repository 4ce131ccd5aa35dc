/- Push of levels, in its five states, with the reference's frames. -/
import Derived.Test.YthnipoikicnlaaaGreatMEnG
set_option linter.unusedVariables false
set_option linter.unusedSimpArgs false
set_option maxRecDepth 100000
namespace Go.Proofs.YthnipoikicnlaaaGreat.En
open Go Go.RowKit Sx Cn Dc Ck Vc Md
structure Lp where
 t:Int
 b:Int
 r:Int
 c:Int
 x:Int
 z:Int
 cf:Nat
noncomputable section
def frR (kind:Int) (ln q0 q1 q2 q3 a b d i j n t u v w x:SC):List SC:=[.ki .i64 kind,ln,q0,q1,q2,q3,a,b,d,i,j,n,t,u,v,w,x,.nils]
def frL (l:List (List SC)):List Col:=(List.range 18).map fun i=>.ck (l.map fun r=>(r[i]?).getD z6)
def tLp:TypeId:=213
def tOp:TypeId:=221
def tSt:TypeId:=224
def k6 (n:Nat):SC:=.ki .i64 (Int.ofNat n)
def lpB (w l v line ins:SC):Blk:=.own 215 8 ([.kb false,.ki .i64 0,.ki .i64 0,w,l,v,line,ins].map some)
def opB (v:SC) (y:Lp) (ln:SC):Blk:=.own 223 10 ([.kb false,.ki .i64 0,.ki .i64 0,i6 y.t,i6 y.b,i6 y.r,i6 y.c,v,ln,uw y.x].map some)
def seB (a l:SC):Blk:=.own 226 5 ([.kb false,.ki .i64 0,.ki .i64 0,a,l].map some)
def fLp (w l v ln:SC):List SC:=frR 5 ln z6 z6 z6 z6 w l v z6 z6 z6 z6 zU zU zU zU
def fOp (v:SC) (y:Lp) (ln:SC):List SC:=frR 0 ln (i6 y.t) (i6 y.b) (i6 y.r) (i6 y.c) v z6 z6 z6 z6 z6 z6 (uw y.x) (uw y.z) zU zU
def psL (j:Nat):SC:=match j with
 | 4=>k6 2
 | _=>k6 1
def psI (ki j:Nat):SC:=match j with
 | 0=>.nilI
 | 4=>.ifc tSt ki (.k 0) (.k 0) 0 5
 | _=>.ifc tOp ki (.k 0) (.k 0) 0 10
def psB (bm:Int) (l v:SC) (y:Lp) (j:Nat):Blk:=match j with
 | 0=>dumB
 | 4=>seB (i6 bm) l
 | _=>opB v y (k6 (j+1))
def psF (w l v:SC) (y:Lp) (j:Nat):List (List SC):=match j with
 | 0=>[fLp w l v (k6 1)]
 | 4=>[fLp w l v (k6 2),fOp v y (k6 4)]
 | _=>[fLp w l v (k6 1),fOp v y (k6 (j+1))]
def psM (j:Nat):Nat:=match j with
 | 0 | 4=>1
 | _=>2
def puN (k f:Nat) (h:HL):Nat:=match zay k f h with
 | some (.ifc t ki _ _ _ _)=>match Nat.beq t tSt with
  | true=>4
  | false=>match ceI ki 8 h with
   | some a=>a.toNat - 1
   | none=>99
 | _=>0
def lastC:Col->Option Int
 | .ck l=>l.getLast?.bind numC
 | _=>none
def psR (k f kf cf:Nat) (h:HL):Option Lp:=match zay k f h with
 | some (.ifc _ _ _ _ _ _)=>match (find kf h).map zfv with
  | some (_::_::a::b::c::d::_::_::_::_::_::_::_::x::z::_)=>match lastC a,lastC b,lastC c,lastC d,lastC x,lastC z with
   | some a,some b,some c,some d,some x,some z=>some ⟨a,b,c,d,x,z,cf⟩
   | _,_,_,_,_,_=>none
  | _=>none
 | _=>some ⟨0,0,0,0,0,0,cf⟩
def maL (t:Nat) (s:St):Option (List (List SC)->Nat->Nat->List Blk):=match find (tmK t s) s.H.h,find (frKi t s) s.H.h with
 | some (.own tm sm (_::rest)),some (.row tf _ _ _)=>fN (frKi t s) fun kf=>some fun l m cf=>fN l.length fun n=>fN m fun m=>[.own tm sm (some (.slc kf (.k 0) (.k 0) 18 (.k m) (.s cf))::rest),.row tf cf n (frL l)]
 | _,_=>none
end
end Go.Proofs.YthnipoikicnlaaaGreat.En
