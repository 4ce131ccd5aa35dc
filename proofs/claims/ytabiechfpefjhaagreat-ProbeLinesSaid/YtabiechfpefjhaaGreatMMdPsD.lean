/- A part of the proof. -/
import Derived.Test.YtabiechfpefjhaaGreatMMdPc
set_option linter.unusedVariables false
set_option linter.unusedSimpArgs false
set_option maxRecDepth 100000
namespace Go.Proofs.YtabiechfpefjhaaGreat.Md
open Go Go.RowKit Sx Cn Dc Ck Vc
noncomputable section
def ck0(c:SC):Col:=.ck [c]
def fDw:FuncId:=170
def ckB(d:Int):Blk:=.view 1 (fun _=>1) [.cu,ck0 (i6 d)]
def vDw(d n:Int):V:=verF P con0 3 4 fDw [] .nil [.c (.ptr 0 (.k 0) (.k 0) 0 2),iv n] ⟨[(0,ckB d)],1,fun _=>True⟩ (finV (X:=Int) 1 1 (fun s _=>numS s) (fun _ _=>[]) (fun r=>r=dr d n) (fun r=>.c (.iv .i64 r)) (fun _=>[]))
def cDw:List SV->Hp->Out (SV×Hp):=fun args H=>match args with
 | [.c (.ptr k _ _ _ _),.c n]=>fN k fun k=>match zfl k 1 H.h,numC n with
  | some d,some n=>useP [k] 1 [.c (.ptr 0 (.k 0) (.k 0) 0 2),iv n] [(0,ckB d)] (.need (n<=9223372036854775807) (.any Int (fun r=>r=dr d n) fun r=>.leaf (.c (.iv .i64 r),⟨[],1,fun _=>True⟩))) args H
  | _,_=>.bad 436
 | _=>.bad 437
def nxP(st nx w W:Int):Int:=if nx<W/\(st+nx) % W=w then nx+1 else nx
def fPa:FuncId:=171
def ptrP(k:Nat):SV:=.c (.ptr k (.k 0) (.k 0) 0 23)
def okPa(p:Pr)(W:Int):Prop:=1<=W/\W<=1000/\0<=p.st/\p.st<=1000/\0<=p.nx/\p.nx<=1000
def prN(p:Pr)(n:Int)(B:A16):Blk:=prB ⟨p.e,p.co,p.va,p.w,p.b,p.st,n⟩ B
def vPa(p:Pr)(B:A16)(W:Int):V:=verF P con0 3 6 fPa [] .nil [ptrP 0,iv W] ⟨[(0,prB p B)],1,fun _=>True⟩ (finV (X:=Int) 1 1 (fun _ H=>(rdPr 0 H.h).map fun r=>r.1.nx) (fun _ _=>[]) (fun q=>q=nxP p.st p.nx p.w W) (fun q=>.c (.bv (decide (q >= W)))) (fun q=>[(0,prN p q B)]))
def cPa:List SV->Hp->Out (SV×Hp):=fun args H=>match args with
 | [.c (.ptr k _ _ _ _),.c n]=>fN k fun k=>match rdPr k H.h,numC n with
  | some (p,B),some W=>useP [k] 1 [ptrP 0,iv W] [(0,prB p B)] (.need (okPa p W) (.any Int (fun q=>q=nxP p.st p.nx p.w W) fun q=>.leaf (.c (.bv (decide (q >= W))),⟨[(0,prN p q B)],1,fun _=>True⟩))) args H
  | _,_=>.bad 436
 | _=>.bad 437
def p0(w:Int):Pr:=⟨false,0,0,w,false,0,0⟩
def A0:A16:=⟨0,0,0,0,0,0,0,0,0,0,0,0,0,0,0,0⟩
structure Ps where
 b:Bool
 p:Pr
 B:A16
 m:Mm
def fPs:FuncId:=169
def envP(y:Ly):Blk:=.view 1 (fun _=>1) (ck0 (i6 y.W)::List.replicate 10 .cu++y.l.map ck0++[ck0 (.ptr 1 (.k 0) (.k 0) 0 6),ck0 (.ptr 4 (.k 0) (.k 0) 0 2),.cu,.cu])
def memP(n cap:NV)(m:Mm):HL:=[(1,.own 116 6 ([.slc 2 (.k 0) (.k 0) 1 n cap,i6 m.lk,i6 m.lc,uw m.lo,uw m.ln,i6 m.ct].map some)),(2,.row 48 cap.v n.v [.ci .u64 fun _ e=>m.g e])]
def hPs(y:Ly)(n cap:NV)(dr0:Int)(p:Pr)(B:A16)(m:Mm):HL:=(0,envP y)::(memP n cap m++[(3,prB p B),(4,ckB dr0)])
def svB(b:Bool):SV:=.c (.bv b)
def rdPs(s:SV)(H:Hp):Option Ps:=match s with
 | .c c=>match boolC c,rdPr 3 H.h,rdMm H.h 1 with
  | some b,some (p,B),some x=>some ⟨b,p,B,x.m⟩
  | _,_,_=>none
 | _=>none
def cnPs:Con:=Con.add fDw cDw (Con.add fPa cPa (Con.add fCh cChO (conT con0)))
def argsPs:List SV:=[ptrP 3,.c (.ptr 0 (.k 0) (.k 0) 0 26)]
def vPs(y:Ly)(n cap:Nat)(dr0:Int)(p:Pr)(B:A16)(m:Mm)(φ:Ps->Prop):V:=verF P cnPs 8 10 fPs [] .nil argsPs ⟨hPs y (.s n) (.s cap) dr0 p B m,5,fun _=>True⟩
 (finV (X:=Ps) 5 5 rdPs (fun _ _=>[]) φ (fun r=>svB r.b) (fun r=>(3,prB r.p r.B)::memP (.s n) (.s cap) r.m))
end
end Go.Proofs.YtabiechfpefjhaaGreat.Md
