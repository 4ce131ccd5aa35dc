/- Remove of the injector, alone: a model of its steps; what is asked. -/
import Derived.Test.YtdcllkdadffnaaaGreatMMdInD
import Derived.Test.YtdcllkdadffnaaaGreatMMd
set_option linter.unusedVariables false
set_option linter.unusedSimpArgs false
set_option maxRecDepth 100000
namespace Go.Proofs.YtdcllkdadffnaaaGreat.Md
open Go Go.RowKit Sx Cn Dc Ck Vc
def tkW (x:Int):Int:=IntKind.i64.wrap (bits .and .u64 x 65535)
structure El where
 n:Nat
 v:Evs
def El.put (l:El) (k w t:Int):El:=⟨l.n+1,⟨fun e=>if e=l.n then k else l.v.k e,fun e=>if e=l.n then w else l.v.w e,fun e=>if e=l.n then t else l.v.t e,fun e=>if e=l.n then 0 else l.v.o e,fun e=>if e=l.n then 0 else l.v.l e⟩⟩
structure XRm where
 ln:Int
 n:Int
 i:Int
 c:Int
 x:Int
 y:Int
 z:Int
 s:Nat
 m:Mm
 l:El
structure Re where
 c:Int
 v:Int
 k:Int
 m:Mm
 l:El
def eRun {X:Type} (kx:X->Nat) (mx:X->Mm) (lx:X->El) (step:X->X×Option (Int×Int)):Nat->X->Re
 | 0,x=>⟨-1,0,kx x,mx x,lx x⟩
 | f+1,x=>match step x with
  | (x',none)=>eRun kx mx lx step f x'
  | (x',some r)=>⟨r.1,r.2,kx x',mx x',lx x'⟩
def kid (i:Int):Int:=IntKind.i64.wrap (IntKind.i64.wrap (2 * i)+1)
def kid2 (i:Int):Int:=IntKind.i64.wrap (IntKind.i64.wrap (2 * i)+2)
def les (n:Int):Int:=IntKind.i64.wrap (n - 1)
def chl (n i:Int):Int:=if kid i < les n then 5 else 8
def dsc (y z:Int):Int:=if z < y then 7 else 8
def zgm (y:Ly) (n:Nat) (w:Int) (x:XRm):XRm×Option (Int×Int):=
 if x.ln=1 then
  if IntKind.i64.wrap (x.m.val n 2)<=0 then ({ x with n:=IntKind.i64.wrap (x.m.val n 2),s:=x.s+1,m:=x.m.acc n 1 2 (x.m.val n 2) },some (2,0))
  else ({ x with ln:=2,n:=IntKind.i64.wrap (x.m.val n 2),s:=x.s+1,m:=x.m.acc n 1 2 (x.m.val n 2) },none)
 else if x.ln=2 then ({ x with ln:=3,x:=x.m.val n (slM y 0),s:=x.s+1,m:=x.m.acc n 1 (slM y 0) (x.m.val n (slM y 0)) },none)
 else if x.ln=3 then ({ x with ln:=4,y:=x.m.val n (slM y (les x.n)),s:=x.s+1,m:=x.m.acc n 1 (slM y (les x.n)) (x.m.val n (slM y (les x.n))) },none)
 else if x.ln=5 then ({ x with ln:=if IntKind.i64.wrap (kid x.i+1) < les x.n then 6 else dsc x.y (x.m.val n (slM y (kid x.i))),c:=kid x.i,z:=x.m.val n (slM y (kid x.i)),s:=x.s+1,m:=x.m.acc n 1 (slM y (kid x.i)) (x.m.val n (slM y (kid x.i))) },none)
 else if x.ln=6 then
  if x.m.val n (slM y (kid2 x.i)) < x.z then ({ x with ln:=dsc x.y (x.m.val n (slM y (kid2 x.i))),c:=kid2 x.i,z:=x.m.val n (slM y (kid2 x.i)),s:=x.s+1,m:=x.m.acc n 1 (slM y (kid2 x.i)) (x.m.val n (slM y (kid2 x.i))) },none)
  else ({ x with ln:=dsc x.y x.z,s:=x.s+1,m:=x.m.acc n 1 (slM y (kid2 x.i)) (x.m.val n (slM y (kid2 x.i))) },none)
 else if x.ln=7 then ({ x with ln:=chl x.n x.c,i:=x.c,s:=x.s+1,m:=x.m.acc n 2 (slM y x.i) x.z },none)
 else if x.ln=8 then ({ x with s:=x.s+1,m:=x.m.acc n 2 (slM y x.i) x.y },some (1,tkW x.x))
 else if x.n=1 then ({ x with s:=x.s+1,m:=x.m.acc n 2 2 (IntKind.u64.wrap (les x.n)),l:=x.l.put 13 w (tkW x.x) },some (1,tkW x.x))
 else ({ x with ln:=chl x.n x.i,s:=x.s+1,m:=x.m.acc n 2 2 (IntKind.u64.wrap (les x.n)),l:=x.l.put 13 w (tkW x.x) },none)
def zc6 (y:Ly) (n:Nat) (w:Int):Nat->XRm->Re:=eRun XRm.s XRm.m XRm.l (zgm y n w)
def rmR (y:Ly) (n:Nat) (w:Int) (M:Nat) (m:Mm) (l:El):Re:=zc6 y n w M ⟨1,0,0,0,0,0,0,0,m,l⟩
noncomputable section
def tRem:TypeId:=96
def mRm0 (w:Int):Blk:=.own 100 11 ([.kb false,.ki .i64 0,.ki .i64 0,i6 w,.ki .i64 1,.ki .i64 0,.ki .i64 0,.ki .i64 0,.ki .u64 0,.ki .u64 0,.ki .u64 0].map some)
def mRm (w:Int) (x:XRm):Blk:=.own 100 11 ([.kb false,.ki .i64 0,.ki .i64 0,i6 w,i6 x.ln,i6 x.n,i6 x.i,i6 x.c,uw x.x,uw x.y,uw x.z].map some)
def envO (y:Ly) (km ke:Nat) (ne nc:Nat):Blk:=.own 64 26 ([none,none,none,none,none,some (i6 y.H),none,none,none,none,none]++y.l.map some++[some (.ptr km (.k 0) (.k 0) 0 6),none,none,some (.slc ke (.k 0) (.k 0) 5 (.s ne) (.s nc))])
def hRm (y:Ly) (len cap:NV) (m:Mm) (l:El) (nc:Nat):HL:=[(0,envO y 1 4 l.n nc),(1,.own 114 6 ([.slc 2 (.k 0) (.k 0) 1 len cap,i6 m.lk,i6 m.lc,uw m.lo,uw m.ln,i6 m.ct].map some)),(2,.row 45 cap.v len.v [.ci .u64 fun _ e=>m.g e]),(4,.row 155 nc l.n l.v.cols)]
def rdEl (t:Nat) (s:St):Option (El×Nat):=match zay (tmK t s) 25 s.H.h,rdEv (envE t s) s.H.h with
 | some (.slc _ _ _ _ m c),some ev=>some (⟨m.v,ev⟩,c.v)
 | _,_=>none
def rdRm (s:St):Option (XRm×Nat):=match tmI 8 s,rdMm s.H.h (envM 0 s),zb0 (tmK 1 s) 4 s.H.h,zb0 (tmK 1 s) 5 s.H.h,zb0 (tmK 1 s) 6 s.H.h,zb0 (tmK 1 s) 7 s.H.h,zb0 (tmK 1 s) 8 s.H.h,zb0 (tmK 1 s) 9 s.H.h,zb0 (tmK 1 s) 10 s.H.h,rdEl 0 s with
 | some k,some x,some l,some n,some i,some c,some a,some b,some z,some (e,nc)=>some (⟨l,n,i,c,a,b,z,k.toNat,x.m,e⟩,nc)
 | _,_,_,_,_,_,_,_,_,_=>none
def okRm (y:Ly) (n:Nat) (w:Int) (M:Nat) (R:Re) (x:XRm×Nat):Prop:=x.1.s<=M/\(x.1.l.n<=x.2/\x.1.l.n<=1000+x.1.s)/\zc6 y n w (M - x.1.s) x.1=R
def laRm (y:Ly) (n:Nat) (w:Int) (M:Nat) (R:Re) (s:St):Option (LA (XRm×Nat)):=match memBs 0 s,find (tmK 0 s) s.H.h with
 | some mb,some (.own te se cs)=>fN (envE 0 s) fun ke=>some ⟨[(tmK 1,true),(envM 0,true),(envC 0,true),(tmK 0,true),(envE 0,false)],
   fun x=>mRm w x.1::(mb x.1.m++[.own te se (cs.set 25 (some (.slc ke (.k 0) (.k 0) 5 (.s x.1.l.n) (.s x.2)))),.row 155 x.2 x.1.l.n x.1.l.v.cols]),
   [8],fun x=>[.c (i6 x.1.s)],rdRm,okRm y n w M R,fun x=>M - x.1.s⟩
 | _,_=>none
def rdRe (s:SV) (H:Hp):Option (Re×Nat×Nat):=match rdRs s H,zay 0 25 H.h with
 | some r,some (.slc ke _ _ _ m c)=>match rdEv ke H.h with
  | some ev=>some (⟨r.c,r.v,r.k,r.m,⟨m.v,ev⟩⟩,c.v,ke)
  | none=>none
 | _,_=>none
def svRe (r:Re):SV:=.t [.c (i6 r.c),.c (i6 r.v),.c (i6 r.k)]
def keyEv (H:Hp):List Nat:=match zay 0 25 H.h with
 | some (.slc ke _ _ _ _ _)=>[ke]
 | _=>[]
def hRe (y:Ly) (len cap:NV) (r:Re) (nc:Nat):HL:=[(0,envO y 1 5 r.l.n nc),(1,.own 114 6 ([.slc 2 (.k 0) (.k 0) 1 len cap,i6 r.m.lk,i6 r.m.lc,uw r.m.lo,uw r.m.ln,i6 r.m.ct].map some)),(2,.row 45 cap.v len.v [.ci .u64 fun _ e=>r.m.g e]),(5,.row 155 nc r.l.n r.l.v.cols)]
def finRe (y:Ly) (len cap:NV) (R:Re):SV->Hp->V:=finV (X:=Re×Nat) 5 6 (fun s H=>(rdRe s H).map fun x=>(x.1,x.2.1)) (fun _ H=>keyEv H) (fun r=>r.1=R/\R.l.n<=r.2) (fun r=>svRe r.1) (fun r=>hRe y len cap r.1 r.2)
def verRm (y:Ly) (n cap:Nat) (w:Int) (M:Nat) (m:Mm) (l:El) (nc:Nat):V:=verF P conIJ 12 12 27 [] (.loop (XRm×Nat) [.ren (envE 0)] (laRm y n w M (rmR y n w M m l)) .nil .nil)
 (argsAl tRem 11 M) ⟨hRm y (.s n) (.s cap) m l nc++[(3,mRm0 w)],5,fun _=>True⟩ (finRe y (.s n) (.s cap) (rmR y n w M m l))
end
end Go.Proofs.YtdcllkdadffnaaaGreat.Md
