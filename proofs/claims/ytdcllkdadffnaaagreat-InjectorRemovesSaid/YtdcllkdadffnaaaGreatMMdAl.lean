/- Machines that run alone: what a run is; an environment that is read. -/
import Derived.Test.YtdcllkdadffnaaaGreatMMdLo
import Derived.Test.YtdcllkdadffnaaaGreatMNwMem
import Derived.Test.YtdcllkdadffnaaaGreatMW
set_option linter.unusedVariables false
set_option linter.unusedSimpArgs false
set_option maxRecDepth 100000
namespace Go.Proofs.YtdcllkdadffnaaaGreat.Md
open Go Go.RowKit Sx Cn Dc Ck Vc
structure Rs where
 c:Int
 v:Int
 k:Int
 m:Mm
def aRun {X:Type} (kx:X->Nat) (mx:X->Mm) (step:Nat×X->(Nat×X)×Option (Int×Int)):Nat->Nat×X->Rs
 | 0,x=>⟨-1,0,kx x.2,mx x.2⟩
 | f+1,x=>match step x with
  | (x',none)=>aRun kx mx step f x'
  | (x',some r)=>⟨r.1,r.2,kx x'.2,mx x'.2⟩
def sz (b t:Int):Int:=IntKind.i64.wrap (IntKind.u64.wrap (b - t))
noncomputable section
def argsAl (t:TypeId) (sz:Nat) (M:Int):List SV:=[.c (.ptr 0 (.k 0) (.k 0) 0 26),.c (.ifc t 3 (.k 0) (.k 0) 0 sz),iv M]
def rdRs (s:SV) (H:Hp):Option Rs:=match s with
 | .t [.c c,.c v,.c k]=>match numC c,numC v,numC k,rdMm H.h 1 with
  | some c,some v,some k,some x=>some ⟨c,v,k,x.m⟩
  | _,_,_,_=>none
 | _=>none
def svRs (r:Rs):SV:=.t [.c (i6 r.c),.c (i6 r.v),.c (i6 r.k)]
def hRs (len cap:NV) (r:Rs):HL:=[(1,.own 114 6 ([.slc 2 (.k 0) (.k 0) 1 len cap,i6 r.m.lk,i6 r.m.lc,uw r.m.lo,uw r.m.ln,i6 r.m.ct].map some)),(2,.row 45 cap.v len.v [.ci .u64 fun _ e=>r.m.g e])]
def finAl (n:Nat) (len cap:NV) (φ:Rs->Prop):SV->Hp->V:=finV (X:=Rs) n n rdRs (fun _ _=>[]) φ svRs (hRs len cap)
def memBs (t:Nat) (s:St):Option (Mm->List Blk):=match find (envM t s) s.H.h,find (envC t s) s.H.h with
 | some (.own tm sm (some (.slc kc a b z len cap)::_)),some (.row t2 c2 n _)=>some fun m=>[.own tm sm ([.slc kc a b z len cap,i6 m.lk,i6 m.lc,uw m.lo,uw m.ln,i6 m.ct].map some),.row t2 c2 n [.ci .u64 fun _ e=>m.g e]]
 | _,_=>none
def zb0 (k f:Nat) (h:HL):Option Int:=(zay k f h).bind numC
end
end Go.Proofs.YtdcllkdadffnaaaGreat.Md
/- Bits, rings: the conditions, printed by program. -/
namespace Go.Proofs.YtdcllkdadffnaaaGreat.Md
open Go Go.RowKit Sx Cn Dc Ck Vc
end Go.Proofs.YtdcllkdadffnaaaGreat.Md
