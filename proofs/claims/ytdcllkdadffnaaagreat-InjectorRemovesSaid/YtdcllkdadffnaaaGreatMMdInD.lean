/- Insert of the injector, alone: a model of its steps; what is asked. -/
import Derived.Test.YtdcllkdadffnaaaGreatMMdAl
set_option linter.unusedVariables false
set_option linter.unusedSimpArgs false
set_option maxRecDepth 100000
namespace Go.Proofs.YtdcllkdadffnaaaGreat.Md
open Go Go.RowKit Sx Cn Dc Ck Vc
def pkB (d a t:Int):Bool:=decide ((0<=d/\d<=16777215)/\(0<=a/\a<=16777215)/\0<=t/\t<=65535)
def pkW (d a t:Int):Int:=bif pkB d a t then d * 1099511627776+a * 65536+t else 0
structure XIn where
 ln:Int
 n:Int
 i:Int
 k:Int
 x:Int
 s:Nat
 m:Mm
def slM (y:Ly) (i:Int):Int:=atM i y.H 4 1
def par (i:Int):Int:=IntKind.i64.wrap ((IntKind.i64.wrap (i - 1)).tdiv 2)
def plc (i:Int):Int:=if i > 0 then 3 else 5
def inStep (y:Ly) (n:Nat) (d t:Int):Nat×XIn->(Nat×XIn)×Option (Int×Int)
 | (q,x)=>
  if x.ln=1 then
   if IntKind.i64.wrap (x.m.val n 2) >= y.H then ((q,{ x with n:=IntKind.i64.wrap (x.m.val n 2),s:=x.s+1,m:=x.m.acc n 1 2 (x.m.val n 2) }),some (3,0))
   else ((q,{ x with ln:=2,n:=IntKind.i64.wrap (x.m.val n 2),s:=x.s+1,m:=x.m.acc n 1 2 (x.m.val n 2) }),none)
  else if x.ln=2 then
   if pkB d (IntKind.i64.wrap (x.m.val n 3)) t=true then ((q,{ x with ln:=plc x.n,i:=x.n,k:=pkW d (IntKind.i64.wrap (x.m.val n 3)) t,s:=x.s+1,m:=x.m.acc n 6 3 (IntKind.u64.wrap (x.m.val n 3+1)) }),none)
   else ((q,{ x with s:=x.s+1,m:=x.m.acc n 6 3 (IntKind.u64.wrap (x.m.val n 3+1)) }),some (4,0))
  else if x.ln=3 then ((q,{ x with ln:=if x.m.val n (slM y (par x.i)) > x.k then 4 else 5,x:=x.m.val n (slM y (par x.i)),s:=x.s+1,m:=x.m.acc n 1 (slM y (par x.i)) (x.m.val n (slM y (par x.i))) }),none)
  else if x.ln=4 then ((q,{ x with ln:=plc (par x.i),i:=par x.i,s:=x.s+1,m:=x.m.acc n 2 (slM y x.i) x.x }),none)
  else if x.ln=5 then ((q,{ x with ln:=6,s:=x.s+1,m:=x.m.acc n 2 (slM y x.i) x.k }),none)
  else ((q,{ x with s:=x.s+1,m:=x.m.acc n 2 2 (IntKind.u64.wrap (IntKind.i64.wrap (x.n+1))) }),some (0,0))
def zen (y:Ly) (n:Nat) (d t:Int):Nat->Nat×XIn->Rs:=aRun XIn.s XIn.m (inStep y n d t)
def inR (y:Ly) (n:Nat) (d t:Int) (M:Nat) (m:Mm):Rs:=zen y n d t M (0,⟨1,0,0,0,0,0,m⟩)
noncomputable section
def fPack:FuncId:=182
def vPack (d a t:Int):V:=verF P con0 3 4 fPack [] .nil [iv d,iv a,iv t] ⟨[],0,fun _=>True⟩
 (finV (X:=Int×Bool) 0 0 (fun s _=>match s with | .t [.c a,.c b]=>(match numC a,asB (.c b) with | some a,some b=>some (a,b.2) | _,_=>none) | _=>none) (fun _ _=>[]) (fun p=>p=(pkW d a t,pkB d a t)) (fun p=>.t [.c (uw p.1),.c (.bv p.2)]) (fun _=>[]))
def cPack:List SV->Hp->Out (SV×Hp):=numF fPack fun l=>match l with
 | [d,a,t]=>useP [] 0 [iv d,iv a,iv t] [] (.need True (.any (Int×Bool) (fun p=>p=(pkW d a t,pkB d a t)) fun p=>.leaf (.t [.c (uw p.1),.c (.bv p.2)],⟨[],0,fun _=>True⟩)))
 | _=>fun _ _=>.bad 484
def tIns:TypeId:=137
def mIn0 (d t:Int):Blk:=.own 139 10 ([.kb false,.ki .i64 0,.ki .i64 0,i6 d,i6 t,.ki .i64 1,.ki .i64 0,.ki .i64 0,.ki .u64 0,.ki .u64 0].map some)
def mIn (d t:Int) (x:XIn):Blk:=.own 139 10 ([.kb false,.ki .i64 0,.ki .i64 0,i6 d,i6 t,i6 x.ln,i6 x.n,i6 x.i,uw x.k,uw x.x].map some)
def envH (y:Ly) (km:Nat):Blk:=.view 1 (fun _=>1) ([.cu,.cu,.cu,.cu,.cu,.ck [i6 y.H],.cu,.cu,.cu,.cu,.cu]++y.l.map (fun c=>.ck [c])++[.ck [.ptr km (.k 0) (.k 0) 0 6],.cu,.cu,.cu])
def hIn (y:Ly) (len cap:NV) (m:Mm):HL:=[(0,envH y 1),(1,.own 114 6 ([.slc 2 (.k 0) (.k 0) 1 len cap,i6 m.lk,i6 m.lc,uw m.lo,uw m.ln,i6 m.ct].map some)),(2,.row 45 cap.v len.v [.ci .u64 fun _ e=>m.g e])]
def rdIn (s:St):Option XIn:=match tmI 8 s,rdMm s.H.h (envM 0 s),zb0 (tmK 1 s) 5 s.H.h,zb0 (tmK 1 s) 6 s.H.h,zb0 (tmK 1 s) 7 s.H.h,zb0 (tmK 1 s) 8 s.H.h,zb0 (tmK 1 s) 9 s.H.h with
 | some s,some x,some l,some n,some i,some k,some v=>some ⟨l,n,i,k,v,s.toNat,x.m⟩
 | _,_,_,_,_,_,_=>none
def okIn (y:Ly) (n:Nat) (d t:Int) (M:Nat) (R:Rs) (x:XIn):Prop:=x.s<=M/\zen y n d t (M - x.s) (0,x)=R
def laIn (y:Ly) (n:Nat) (d t:Int) (M:Nat) (R:Rs) (s:St):Option (LA XIn):=match memBs 0 s with
 | some mb=>some ⟨[(tmK 1,true),(envM 0,true),(envC 0,true)],fun x=>mIn d t x::mb x.m,[8],fun x=>[.c (i6 x.s)],rdIn,okIn y n d t M R,fun x=>M - x.s⟩
 | none=>none
def conIJ:Con:=Con.add fPack cPack (conT con0)
def verIn (y:Ly) (n cap:Nat) (d t:Int) (M:Nat) (m:Mm):V:=verF P conIJ 12 12 27 [] (.loop XIn [] (laIn y n d t M (inR y n d t M m)) .nil .nil)
 (argsAl tIns 10 M) ⟨hIn y (.s n) (.s cap) m++[(3,mIn0 d t)],4,fun _=>True⟩ (finAl 4 (.s n) (.s cap) fun r=>r=inR y n d t M m)
end
end Go.Proofs.YtdcllkdadffnaaaGreat.Md
