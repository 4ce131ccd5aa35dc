/- Claim of the table, its one line with the reference's: what is asked. -/
import Derived.Test.YtjiljajegheilaaGreatMEnG
import Derived.Test.YtjiljajegheilaaGreatMEg
import Derived.Test.YtjiljajegheilaaGreatMW
import Derived.Test.YtjiljajegheilaaGreatMV
import Derived.Test.YtjiljajegheilaaGreatMMd
set_option maxHeartbeats 64000000
set_option linter.unusedVariables false
set_option linter.unusedSimpArgs false
set_option maxRecDepth 100000
open Go.IntKind (i64 u64)
open Int renaming ofNat -> O
open Go.Proofs.YtjiljajegheilaaGreat.Sx.V renaming need -> U
namespace Go.Proofs.YtjiljajegheilaaGreat.En
open Go Go.RowKit Sx Cn Dc Ck Vc Md
noncomputable section
def cxB (w t:SC):Blk:=.own 102 5 ([.kb false,.ki .i64 0,.ki .i64 0,w,t].map some)
def cxX:SC:=.ifc 98 14 (.k 0) (.k 0) 0 5
def cxF (w t:SC):List Col:=frF 14 (.ki .i64 1) w t z6 z6 z6 z6 z6 zU zU zU zU
def hMw (c:Cf) (v:Ev) (mb:Blk) (fc:List Col) (cf:Nat):HL:=[(0,eVo c v),(1,pmB 2 v.n v.a.c v.m),(2,wRow v.a.c v.n v.m),(3,clkB v.now v.dr),(4,v.x.row 5 v.a.k v.a.r),(5,v.x.famV),(6,evB 0 v.a.e),
 (7,(eR c v).b 12 13 8 9 11),(8,wRow v.b.c v.n v.m),(9,v.x.row 10 v.b.k v.b.r),(10,v.x.famV),(11,evB 0 v.b.e),(12,dum 1),(13,dum 3),(14,mb),(15,maB 16 1 cf),(16,.row tFr cf 1 fc)]
def conCx:Con:=Con.add fRA cRA (Con.add fSm cSm (Con.add fTw xTk (Con.add fLt xLt (conU con0))))
theorem conCx_ok:zaj P conCx:=.add cRA_ok (.add cSm_ok (.add xTk_ok (.add xLt_ok (conU_ok zaj.nil))))
def argM0 (x:SC) (M:Nat):List SV:=[.c (.ptr 0 (.k 0) (.k 0) 0 26),.c (.ptr 7 (.k 0) (.k 0) 0 21),.c x,.c (.ptr 15 (.k 0) (.k 0) 0 4),.c .nils,.c (.ki .i64 (O M))]
def vCx (c:Cf) (v:Ev) (w t:Int) (cf:Nat):V:=verF P conCx 6 8 fMt [] (.unroll [] .nil) (argM0 cxX 5) ⟨hMw c v (cxB (i6 w) (i6 t)) (cxF (i6 w) (i6 t)) cf,17,fun _=>True⟩ (yesF 17)
def cMc:List SV->Hp->Out (SV×Hp):=fun args H=>match args with
 | [.c (.ptr ke _ _ _ _),.c (.ptr kr _ _ _ _),.c (.ifc t kx _ _ _ _),.c (.ptr ky _ _ _ _),.c .nils,_]=>fN ke fun ke=>fN kr fun kr=>fN kx fun kx=>fN ky fun ky=>fN (scK (zax ky 0 H.h)) fun kf=>match rdMt ke kr H.h,frABD kf H.h with
  | some (c,v,σ,τ),some (n,a,b,d,cf)=>match Nat.beq n.toNat 14 with
   | true=>useP (σ++τ++[kx,ky,kf]) 17 (argM0 cxX 5) (hMw c v (cxB (i6 a) (i6 b)) (cxF (i6 a) (i6 b)) cf) (yesO 17 (okMq c v/\v.x.n<=v.a.r/\v.x.n<=v.b.r)) args H
   | false=>.bad 480
  | _,_=>.bad 482
 | _=>.bad 483
end
end Go.Proofs.YtjiljajegheilaaGreat.En
/- Claim: the conditions, printed by program. -/
namespace Go.Proofs.YtjiljajegheilaaGreat.En
open Go Go.RowKit Sx Cn Dc Ck Vc Md
abbrev zncx3 (a0:Nat) (k:V):V:=U (0+1<=0+1/\0+1<=a0) (U (∀ (i e:Nat),i=0/\e < 0+1->(if i=0/\e=0 then O 15 else O 0)=if 0=0/\e=0 then O 15 else O 0) k)
abbrev zncx4 (a0:Nat) (k:V):V:=U (0+1<=0+1/\0+1<=a0) (U (∀ (i e:Nat),i=0/\e < 0+1->(if i=0/\e=0 then O 9 else O 0)=if 0=0/\e=0 then O 9 else O 0) k)
abbrev zncx5 (a0:Nat) (k:V):V:=U (0+1<=0+1/\0+1<=a0) (U (∀ (i e:Nat),i=0/\e < 0+1->(if i=0/\e=0 then O 5 else O 0)=if 0=0/\e=0 then O 5 else O 0) k)
abbrev zncx6 (a0:Rk) (a1:Int) (k:V):V:=U (∀ (i e:Nat),i=0/\e < a0.n->(if i=0/\e=0+a1.toNat then true else a0.st e)=if 0=0/\e=0+a1.toNat then true else a0.st e) (nN [(1,.le 1 1)] k)
abbrev zncx7 (a0:Ev) (a1:Rm) (a2 a3:Mm) (k:V):V:=U (a0.n<=a0.n/\a0.n<=a1.c) (U (∀ (i e:Nat),i=0/\e < a0.n->a2.g e=a3.g e) k)
abbrev zncx0 (a0:Rk) (l:LP):LP:=(1,.pf (∀ (i:Nat),i < a0.n->a0.kl i<=a0.kl i) (by intros; exact Nat.le_refl _))::(1,.pf (∀ (i e:Nat),i < a0.n/\e < a0.kl i->a0.kd i e=a0.kd i e) (by intros; rfl))::l
abbrev zncx8 (a0:Rk) (a1:Ev) (a2:Mm) (a3 a4:Int) (k:V):V:=nN (zncx0 a0 []) (U (okCm (Cm.mk a1.n a2 a1.now { a0 with st:=aN (0+a3.toNat) true a0.st } (0+1) (Evs.mk (fun (i:Nat)=>if 0=0/\i=0 then O 5 else O 0) (fun (i:Nat)=>if 0=0/\i=0 then a4 else O 0) (fun (i:Nat)=>if 0=0/\i=0 then a3 else O 0) (fun (i:Nat)=>if 0=0/\i=0 then O 0 else O 0) fun (i:Nat)=>if 0=0/\i=0 then O 0 else O 0))) k)
abbrev zncx9 (a0:Rk) (a1:Ev) (a2:Mm) (a3 a4:Int) (k:V):V:=nN (zncx0 a0 []) (U (okCm (Cm.mk a1.n a2 a1.now a0 (0+1) (Evs.mk (fun (i:Nat)=>if 0=0/\i=0 then O 15 else O 0) (fun (i:Nat)=>if 0=0/\i=0 then a3 else O 0) (fun (i:Nat)=>if 0=0/\i=0 then a4 else O 0) (fun (i:Nat)=>if 0=0/\i=0 then O 0 else O 0) fun (i:Nat)=>if 0=0/\i=0 then O 0 else O 0))) k)
abbrev zncx10 (a0:Rk) (a1:Ev) (a2:Mm) (a3 a4:Int) (k:V):V:=nN (zncx0 a0 []) (U (okCm (Cm.mk a1.n a2 a1.now a0 (0+1) (Evs.mk (fun (i:Nat)=>if 0=0/\i=0 then O 9 else O 0) (fun (i:Nat)=>if 0=0/\i=0 then a3 else O 0) (fun (i:Nat)=>if 0=0/\i=0 then a4 else O 0) (fun (i:Nat)=>if 0=0/\i=0 then O 0 else O 0) fun (i:Nat)=>if 0=0/\i=0 then O 0 else O 0))) k)
abbrev zncx11 (a0:Int) (a1:Rk) (k:V):V:=U (O 0<=a0/\a0 < (↑a1.n:Int)) (U (0 < 1/\0+a0.toNat < a1.n) k)
abbrev zncx12 (a0:Nat) (k:V):V:=U (O 0<=O 0/\O 0<=O 0/\O 0<=(↑a0:Int)) (nN [(12,.lt2 0 1 0 1)] k)
abbrev zncx13 (a0:Cf) (a1:Int) (k:V):V:=U (okYn a0.W a0.L a0.C a0.T a0.D a0.H/\O 0<=O 0/\O 0<=O 4) (nN [qE (tkN a0.W a0.L a0.C a0.T a0.D a0.H a1 (O 0))] k)
abbrev zncx14 (a0:Rm) (k:Nat->V):V:=U (0<=0/\a0.e=a0.e) (U (0+1<=9223372036854775807/\(0+1) * 40<=140737488355328) (V.any Nat (fun (x_1256:Nat)=>0+1<=x_1256) fun v0=>k v0))
abbrev zncx15 (a0:Rk) (a1:Rm) (k:V):V:=nN [(1,.le 1 1)] (U (a0.n<=a0.n/\a0.n<=a1.r) (nN [(1,.pf (∀ (i e:Nat),i=0/\e < a0.n->a0.p e=a0.p e) (by intros; rfl)),(1,.pf (∀ (i e:Nat),i=0/\e < a0.n->a0.pa e=a0.pa e) (by intros; rfl)),(1,.pf (∀ (i e:Nat),i=0/\e < a0.n->a0.pc e=a0.pc e) (by intros; rfl)),(1,.pf (∀ (i e:Nat),i=0/\e < a0.n->a0.lf e=a0.lf e) (by intros; rfl)),(1,.pf (∀ (i e:Nat),i=0/\e < a0.n->a0.wt e=a0.wt e) (by intros; rfl)),(1,.pf (∀ (i e:Nat),i=0/\e < a0.n->e=e) (by intros; rfl)),(1,.pf (∀ (i e:Nat),i=0/\e < a0.n->a0.kl e=a0.kl e) (by intros; rfl)),(1,.pf (∀ (i e:Nat),i=0/\e < a0.n->a1.k e=a1.k e) (by intros; rfl))] k))
abbrev zncx16 (a0 a1:Mm) (k:V):V:=U (decide (a0.ct > i64.wrap (a1.ct+O 1))=false) (nN [(6,.lt2 0 1 0 1)] k)
abbrev zdk (a0 a1:Int) (k:V):V:=U (∀ (i e:Nat),i=0/\e < 0+1->(if i=0/\e=0 then a0 else O 0)=if 0=0/\e=0 then a0 else O 0) (U (∀ (i e:Nat),i=0/\e < 0+1->(if i=0/\e=0 then a1 else O 0)=if 0=0/\e=0 then a1 else O 0) (U (∀ (i e:Nat),i=0/\e < 0+1->(if i=0/\e=0 then O 0 else O 0)=if 0=0/\e=0 then O 0 else O 0) (U (∀ (i e:Nat),i=0/\e < 0+1->(if i=0/\e=0 then O 0 else O 0)=if 0=0/\e=0 then O 0 else O 0) k)))
abbrev zncx18 (a0:Int) (a1:Rk) (k:V):V:=zncx11 a0 a1 (U (0 < 1/\0+a0.toNat < a1.n) k)
abbrev zef (a0:Ev) (a1:Rm) (a2:Mm) (k:V):V:=nN [(1,.le 1 1)] (U (a0.n<=a0.n/\a0.n<=a1.c) (nN [(1,.pf (∀ (i e:Nat),i=0/\e < a0.n->a2.g e=a2.g e) (by intros; rfl))] k))
abbrev zncx20 (a0:Rk) (a1:Int) (k:V):V:=U (∀ (i e:Nat),i=0/\e < a0.n->(if i=0/\e=0+a1.toNat then true else a0.st e)=a0.st e) (nN [(1,.le 1 1)] k)
abbrev zncx21 (a0 a1:Mm) (k:V):V:=U (a0.lk=a1.lk) (U (a0.lc=a1.lc) (U (a0.lo=a1.lo) (U (a0.ln=a1.ln) (U (a0.ct=a1.ct) k))))
abbrev zdi (a0:Rm) (l:LP):LP:=qE a0.r::qE (0+1)::l
abbrev zncx2 (l:LP):LP:=(1,.le 0 0)::(1,.pf (∀ (i:Nat),i < 0->0<=0) (by intros; exact Nat.le_refl _))::l
abbrev zncx23 (l:LP):LP:=zncx2 (zncx2 l)
abbrev zncx24 (a0:Rm) (k:V):V:=nN [(1,.le 0 1)] (U (0<=0/\0<=a0.e) k)
abbrev zncx25 (a0:Rk) (a1:Rm) (k:V):V:=zncx15 a0 a1 (nN [(1,.pf (∀ (i e:Nat),i=0/\e < a0.n->a0.st e=a0.st e) (by intros; rfl)),(1,.le 1 1)] k)
abbrev zncx26 (l:LP):LP:=(1,.eqI 1 1)::(1,.eqI 2 2)::l
abbrev zncx1 (a0:Mm) (a1:Ev) (a2:Cf) (a3:Int) (k:Mm->V):V:=nN [qX (a0.acc a1.n (O 3) (tkN a2.W a2.L a2.C a2.T a2.D a2.H a3 (O 0)) (casV (a0.hit a1.n (tkN a2.W a2.L a2.C a2.T a2.D a2.H a3 (O 0)) (O 1)) (a0.val a1.n (tkN a2.W a2.L a2.C a2.T a2.D a2.H a3 (O 0))) (O 2)))] (V.any Mm (fun (m':Mm)=>m'=a0.acc a1.n (O 3) (tkN a2.W a2.L a2.C a2.T a2.D a2.H a3 (O 0)) (casV (a0.hit a1.n (tkN a2.W a2.L a2.C a2.T a2.D a2.H a3 (O 0)) (O 1)) (a0.val a1.n (tkN a2.W a2.L a2.C a2.T a2.D a2.H a3 (O 0))) (O 2))) fun v0=>k v0)
theorem vCx_eq (c:Cf) (v:Ev) (w t:Int) (cf:Nat):V.pr (.b (.t (.f .z)) (.b (.f (.t (.f (.t .z)))) (.f (.f (.f (.t .z)))))) (vCx c v w t cf)=
 nN [(6,.lt2 0 1 0 1),qE v.n,qE v.a.c,qE v.m.ct] (zef v v.a v.m (nN [(25,.lt2 0 1 0 1),qE c.W,qE c.L,qE c.C,qE c.T,qE c.D,qE c.H,qE (lS c),qE (lE c),qE (lB c),qE (lQ c),qE (lT c),qE t,(1,.eqI 0 0)] (U (okYn c.W c.L c.C c.T c.D c.H/\lT c=lTn c.W c.L c.C c.D c.H/\O 0<=O 0/\O 0<=O 4) (nN (qE (tkN c.W c.L c.C c.T c.D c.H t (O 0))::zncx26 [qE v.n,qE v.a.c,qE v.m.lk,qE v.m.lc,qE v.m.lo,qE v.m.ln,qE v.m.ct,qE v.a.c,qL v.n,qF v.n v.m.g]) (zncx1 v.m v c t fun y0=>V.br (!(v.m).hit v.n (tkN c.W c.L c.C c.T c.D c.H t (O 0)) (O 1)) (nN [(13,.lt2 0 1 0 1)] (zncx14 v.a fun y1=>nN ((9,.lt2 0 1 0 1)::(3,.lt 0 1)::(7,.lt2 0 1 0 1)::(6,.lt 0 1)::(16,.lt2 0 1 0 1)::qE c.W::qE c.L::qE c.C::qE c.T::qE c.D::qE c.H::qE c.B::qE c.A::qE c.P::qE c.nP::qE c.rc::qE c.nU::qE c.cu::qE t::(1,.eqI 0 0)::zncx23 []) (zncx13 c t (nN (zncx26 (qE c.W::qE c.L::qE c.C::qE c.T::qE c.D::qE c.H::qE c.B::qE c.A::qE c.P::qE c.nP::qE c.rc::qE c.nU::qE c.cu::qE v.n::qE v.b.c::qE v.m.lk::qE v.m.lc::qE v.m.lo::qE v.m.ln::qE v.m.ct::qE v.now::qE v.dr::qE v.x.n::qE v.b.r::(1,.eq 0 0)::qE v.b.e::qE v.b.c::qL v.n::qF v.n v.m.g::zncx23 [(1,.le 0 1)])) (U (0<=v.x.n/\0<=v.b.r) (zncx24 v.b (zncx1 v.m v c t fun y2=>U ((!(v.m).hit v.n (tkN c.W c.L c.C c.T c.D c.H t (O 0)) (O 1))=true) (nN [(6,.lt2 0 1 0 1),(5,.lt 0 1)] (zncx14 v.b fun y3=>nN [(6,.lt2 0 1 0 1)] (zncx12 cf (nN (qE v.x.n::zdi v.a [qE y1,qE v.n,qE v.a.c,qE y0.lk,qE y0.lc,qE y0.lo,qE y0.ln,qE y0.ct]) (zef v v.a y0 (nN [qE v.now] (zncx25 v.x v.a (zncx3 y1 (zdk w t (nN [qE v.n,qE v.b.c] (zncx21 y2 y0 (nN (qE v.now::qE v.x.n::zdi v.b [qE y3,(1,.le 1 1)]) (zncx7 v v.b y2 y0 (zncx25 v.x v.b (zncx3 y3 (zdk w t (nN (qL v.x.n::zncx0 v.x [qL v.x.n]) (zncx9 v.x v y0 w t (nN [qE v.n,qE v.a.c,qE y0.ct] (zef v v.a y0 (zncx16 y0 v.m (nN (qE v.x.n::zdi v.a [qE y1,qE v.n,qE v.a.c,qE y0.lk,qE y0.lc,qE y0.lo,qE y0.ln,qE y0.ct]) (zef v v.a y0 (nN [qE v.now] (zncx25 v.x v.a (zncx3 y1 (zdk w t (nN [qE v.n,qE v.b.c] (zncx21 y2 y0 (nN (qE v.now::qE v.x.n::zdi v.b [qE y3,(1,.le 1 1)]) (zncx7 v v.b y2 y0 (zncx25 v.x v.b (zncx3 y3 (zdk w t (nN (qL v.x.n::zncx0 v.x [qL v.x.n]) (zncx9 v.x v y0 w t (U True V.ok)))))))))))))))))))))))))))))))))))))))))))) (nN [(6,.lt2 0 1 0 1)] (zncx11 t v.x (U (0+t.toNat < v.x.n) (U (0+t.toNat < v.x.n) (U (0+t.toNat < v.x.n) (V.br (v.x.st (0+t.toNat)) (nN [(13,.lt2 0 1 0 1)] (zncx14 v.a fun y1=>nN ((14,.lt2 0 1 0 1)::(3,.lt 0 1)::(7,.lt2 0 1 0 1)::(6,.lt 0 1)::(16,.lt2 0 1 0 1)::qE c.W::qE c.L::qE c.C::qE c.T::qE c.D::qE c.H::qE c.B::qE c.A::qE c.P::qE c.nP::qE c.rc::qE c.nU::qE c.cu::qE t::(1,.eqI 0 0)::zncx23 []) (zncx13 c t (nN (zncx26 (qE c.W::qE c.L::qE c.C::qE c.T::qE c.D::qE c.H::qE c.B::qE c.A::qE c.P::qE c.nP::qE c.rc::qE c.nU::qE c.cu::qE v.n::qE v.b.c::qE v.m.lk::qE v.m.lc::qE v.m.lo::qE v.m.ln::qE v.m.ct::qE v.now::qE v.dr::qE v.x.n::qE v.b.r::(1,.eq 0 0)::qE v.b.e::qE v.b.c::qL v.n::qF v.n v.m.g::zncx23 [(1,.le 0 1)])) (U (0<=v.x.n/\0<=v.b.r) (zncx24 v.b (zncx1 v.m v c t fun y2=>U ((!(v.m).hit v.n (tkN c.W c.L c.C c.T c.D c.H t (O 0)) (O 1))=false) (nN [(6,.lt2 0 1 0 1)] (zncx18 t v.x (U (0 < 1/\0+t.toNat < v.x.n) (U (v.x.st (0+t.toNat)=true) (nN [(6,.lt2 0 1 0 1)] (zncx18 t v.x (U (0+t.toNat < v.x.n) (nN [(6,.lt2 0 1 0 1),(5,.lt 0 1)] (zncx14 v.b fun y3=>nN [(3,.lt 0 1),(6,.lt2 0 1 0 1)] (zncx12 cf (nN (qE v.x.n::zdi v.a [qE y1,qE v.n,qE v.a.c,qE y0.lk,qE y0.lc,qE y0.lo,qE y0.ln,qE y0.ct]) (zef v v.a y0 (nN [qE v.now] (zncx25 v.x v.a (zncx4 y1 (zdk w t (nN [qE v.n,qE v.b.c] (zncx21 y2 y0 (nN (qE v.now::qE v.x.n::zdi v.b [qE y3,(1,.le 1 1)]) (zncx7 v v.b y2 y0 (zncx15 v.x v.b (zncx20 v.x t (zncx4 y3 (zdk w t (nN (qL v.x.n::zncx0 v.x [qL v.x.n]) (zncx10 v.x v y0 w t (nN [qE v.n,qE v.a.c,qE y0.ct] (zef v v.a y0 (zncx16 y0 v.m (U ((t == t)=true) (nN (qE v.x.n::zdi v.a [qE y1,qE v.n,qE v.a.c,qE y0.lk,qE y0.lc,qE y0.lo,qE y0.ln,qE y0.ct]) (zef v v.a y0 (nN [qE v.now] (zncx25 v.x v.a (zncx4 y1 (zdk w t (nN [qE v.n,qE v.b.c] (zncx21 y2 y0 (nN (qE v.now::qE v.x.n::zdi v.b [qE y3,(1,.le 1 1)]) (zncx7 v v.b y2 y0 (zncx15 v.x v.b (zncx20 v.x t (zncx4 y3 (zdk w t (nN (qL v.x.n::zncx0 v.x [qL v.x.n]) (zncx10 v.x v y0 w t (U True V.ok)))))))))))))))))))))))))))))))))))))))))))))))))))))) (U (0+t.toNat < v.x.n) (U (0+t.toNat < v.x.n) (U (0+t.toNat < v.x.n) (nN [(13,.lt2 0 1 0 1)] (zncx14 v.a fun y1=>nN ((14,.lt2 0 1 0 1)::(3,.lt 0 1)::(7,.lt2 0 1 0 1)::(6,.lt 0 1)::(16,.lt2 0 1 0 1)::qE c.W::qE c.L::qE c.C::qE c.T::qE c.D::qE c.H::qE c.B::qE c.A::qE c.P::qE c.nP::qE c.rc::qE c.nU::qE c.cu::qE t::(1,.eqI 0 0)::zncx23 []) (zncx13 c t (nN (zncx26 (qE c.W::qE c.L::qE c.C::qE c.T::qE c.D::qE c.H::qE c.B::qE c.A::qE c.P::qE c.nP::qE c.rc::qE c.nU::qE c.cu::qE v.n::qE v.b.c::qE v.m.lk::qE v.m.lc::qE v.m.lo::qE v.m.ln::qE v.m.ct::qE v.now::qE v.dr::qE v.x.n::qE v.b.r::(1,.eq 0 0)::qE v.b.e::qE v.b.c::qL v.n::qF v.n v.m.g::zncx23 [(1,.le 0 1)])) (U (0<=v.x.n/\0<=v.b.r) (zncx24 v.b (zncx1 v.m v c t fun y2=>U ((!(v.m).hit v.n (tkN c.W c.L c.C c.T c.D c.H t (O 0)) (O 1))=false) (nN [(6,.lt2 0 1 0 1)] (zncx18 t v.x (U (0 < 1/\0+t.toNat < v.x.n) (U (v.x.st (0+t.toNat)=false) (nN [(6,.lt2 0 1 0 1)] (zncx18 t v.x (U (0+t.toNat < v.x.n) (nN [(6,.lt2 0 1 0 1),(5,.lt 0 1)] (zncx14 v.b fun y3=>nN [(3,.lt 0 1),(6,.lt2 0 1 0 1)] (zncx12 cf (nN (qE v.x.n::zdi v.a [qE y1,qE v.n,qE v.a.c,qE y0.lk,qE y0.lc,qE y0.lo,qE y0.ln,qE y0.ct]) (zef v v.a y0 (nN [qE v.now] (zncx15 v.x v.a (zncx6 v.x t (zncx5 y1 (zdk w t (nN [qE v.n,qE v.b.c] (zncx21 y2 y0 (nN (qE v.now::qE v.x.n::zdi v.b [qE y3,(1,.le 1 1)]) (zncx7 v v.b y2 y0 (zncx15 v.x v.b (zncx6 v.x t (zncx5 y3 (zdk w t (nN (qL v.x.n::zncx0 v.x [qL v.x.n]) (zncx8 v.x v y0 t w (nN [qE v.n,qE v.a.c,qE y0.ct] (zef v v.a y0 (zncx16 y0 v.m (U ((t == t)=true) (nN (qE v.x.n::zdi v.a [qE y1,qE v.n,qE v.a.c,qE y0.lk,qE y0.lc,qE y0.lo,qE y0.ln,qE y0.ct]) (zef v v.a y0 (nN [qE v.now] (zncx15 v.x v.a (zncx6 v.x t (zncx5 y1 (zdk w t (nN [qE v.n,qE v.b.c] (zncx21 y2 y0 (nN (qE v.now::qE v.x.n::zdi v.b [qE y3,(1,.le 1 1)]) (zncx7 v v.b y2 y0 (zncx15 v.x v.b (zncx6 v.x t (zncx5 y3 (zdk w t (nN (qL v.x.n::zncx0 v.x [qL v.x.n]) (zncx8 v.x v y0 t w (U True V.ok)))))))))))))))))))))))))))))))))))))))))))))))))))))))))))))))))))))):=by kernel_rfl
end Go.Proofs.YtjiljajegheilaaGreat.En
/- Claim of the table: the conditions hold; the contract of Match. -/
namespace Go.Proofs.YtjiljajegheilaaGreat.En
open Go Go.RowKit Sx Cn Dc Ck Vc Md
theorem vhCx {c:Cf} {v:Ev} {w t:Int} {cf:Nat} (h:okMq c v/\v.x.n<=v.a.r/\v.x.n<=v.b.r):zae (vCx c v w t cf):=by
 obtain ⟨h,ha,hb⟩:=h
 refine zae.pr (vCx_eq ..) ?_
 (with_reducible repeat' first | exact V.okI | refine V.brT ?_ | refine V.brF ?_ | refine V.brI ?_ ?_ | refine V.anyI ?_ | refine nN_h rfl ?_ | refine V.needI ?_ ?_ | intro _)
 all_goals first
  | assumption
  | exact True.intro
  | exact Nat.zero_le _
  | exact q_cm ‹_›
  | exact q_ka ‹_›
  | exact q_kb ‹_›
  | exact q_yk ‹_› (by decide)
  | exact ⟨h.1,rfl,by decide,by decide⟩
  | exact q_cm1 ‹_› (by decide)
  | exact ⟨Nat.le_refl _,by assumption⟩
  | exact ⟨Nat.zero_le _,Nat.zero_le _⟩
  | exact ⟨Nat.le_refl _,rfl⟩
  | exact ⟨by decide,by decide,Int.natCast_nonneg _⟩
  | exact q_ctv ‹_› ‹_›
  | exact q_hitN ‹_› (q_nf ‹_›)
  | exact ⟨Nat.zero_lt_one,q_hitN ‹_› (q_nf ‹_›)⟩
  | exact q_hit ‹_› (q_nf ‹_›)
  | exact q_if ‹_›
  | exact q_same ‹_›
  | exact beq_self_eq_true _
  | exact (beq_self_eq_true _).symm
  | (subst_vars; rfl)
  | decide
  | trace_state
theorem nCx {c:Cf} {v:Ev} {w t:Int} {cf:Nat}:zah P fMt (argM0 cxX 5) (hMw c v (cxB (i6 w) (i6 t)) (cxF (i6 w) (i6 t)) cf) 17 (yesO 17 (okMq c v/\v.x.n<=v.a.r/\v.x.n<=v.b.r)):=zai conCx_ok fun h=>vhCx h
noncomputable section
theorem cMc_ok:zab P fMt cMc:=zac fun args H=>by
 unfold cMc
 simp only [fN_eq]
 repeat' split
 all_goals first
  | exact .inl ⟨_,rfl⟩
  | with_reducible exact .inr ⟨_,_,_,_,_,rfl,nCx⟩
end
end Go.Proofs.YtjiljajegheilaaGreat.En
