/- A part of the proof. -/
import Derived.Test.YtabiechfpefjhaaGreatML
import Derived.Test.YtabiechfpefjhaaGreatMW
set_option linter.unusedVariables false
set_option linter.unusedSimpArgs false
set_option maxRecDepth 100000
namespace Go.Proofs.YtabiechfpefjhaaGreat.Vc
open Go Go.RowKit Sx Cn Dc Ck
structure Mk where
 w:Bool
 l:Bool
 c:Bool
 t:Bool
 d:Bool
 h:Bool
 b:Bool
 a:Bool
 p:Bool
def kiB:SC->Bool
 | .ki _ _=>true
 | _=>false
noncomputable section
def cfK(m:Mk)(k0 k1:Nat)(c d:Cf):List SC:=[knI m.w .i64 c.W,knI m.l .i64 c.L,knI m.c .i64 c.C,knI m.t .i64 c.T,knI m.d .i64 c.D,knI m.h .i64 c.H,knI m.b .i64 c.B,knI m.a .i64 c.A,knI m.p .i64 c.P,slK k0 1 d.nP d.rc,slK k1 3 d.nU d.cu]
def layK(m:Mk)(c:Cf):List SC:=[knI m.w .i64 c.W,knI m.l .i64 c.L,knI m.c .i64 c.C,knI m.t .i64 c.T,knI m.d .i64 c.D,knI m.h .i64 c.H,knI m.h .i64 (lS c),knI (m.h&&m.c) .i64 (lE c),knI (m.h&&(m.c&&m.w)) .i64 (lB c),knI (m.h&&(m.c&&m.w)) .i64 (lQ c),knI (m.h&&(m.c&&(m.w&&(m.l&&m.d)))) .i64 (lT c)]
def slN(b b':Bool)(k sz n cap:Nat):SC:=.slc k (.k 0) (.k 0) sz (knN b n) (knN b' cap)
def envK(k0 k1 km kc kr:Nat)(m:Mk)(c d:Cf)(rn rc:Nat):Blk:=.own 45 26 ((cfK m k0 k1 c d++layK m c++[.ptr km (.k 0) (.k 0) 0 6,.ptr kc (.k 0) (.k 0) 0 2,slN m.t false kr 7 rn rc,.nils]).map some)
def memK(k:Nat)(b:Bool)(n:Nat):Blk:=.own 116 6 ([slN b b k 1 n n,.ki .i64 0,.ki .i64 0,.ki .u64 0,.ki .u64 0,.ki .i64 0].map some)
def repK(b:Bool)(n:Nat)(x:SC):Col:=match b with|true=>.ck (List.replicate n x)|false=>.cc x
def zeroK(b:Bool)(n:Nat):Blk:=.row 48 n n [repK b n (.ki .u64 0)]
def clkK:Blk:=.own 89 2 [some (.ki .i64 0),some (.ki .i64 0)]
def Mk.n(m:Mk):Bool:=m.h&&(m.c&&(m.w&&(m.l&&(m.d&&m.t))))
def knN'{β:Type 1}(b:Bool)(n:Nat)(k:Nat->β):β:=match b with|true=>fN n k|false=>k n
theorem knN_eq{β:Type 1}(b:Bool)(n:Nat)(k:Nat->β):knN' b n k=k n:=by cases b<;>simp[knN']
end
section
variable {g:Nat->Int} {len:Nat}
end
def c9(g:Nat->Int)(len:Nat)(FC:Nat->Nat)(rc cu:Nat):Cf:=⟨dW g len,dL g len,dC g len,dT g len,dD g len,dH g len,dB g len,dA g len,dP g len,1,rc,0,cu,fun _=>0,fun e=>FC e,fun i e=>cO g len i e,fun i e=>cA g len i e,fun i e=>cB g len i e,fun e=>uP g len e,fun e=>uL g len e,fun e=>uD g len e⟩
noncomputable section
def g0:Nat->Int:=fun _=>0
end
noncomputable section
end
noncomputable section
def psYes:PS:=.one 0 (fun _ _=>[]) (.c (.kb true)) []
def conYes:List SV->Hp->Out (SV×Hp):=fun args H=>match args with
 | []=>useP [] 0 [] [] (.need True psYes.out) args H
 | _=>.bad 422
theorem conYes_ok{f:FuncId}(h:zah P f [] [] 0 (.need True psYes.out)):zab P f conYes:=zac fun args H=>by
 unfold conYes
 split
 ·exact .inr ⟨_,_,_,_,_,rfl,h⟩
 ·exact .inl ⟨_,rfl⟩
end
end Go.Proofs.YtabiechfpefjhaaGreat.Vc
