/- Publish of the table, step by step with the reference's: what is asked. -/
import Derived.Test.YtmmacoooblaniaaGreatMEnG
import Derived.Test.YtmmacoooblaniaaGreatMW
import Derived.Test.YtmmacoooblaniaaGreatMV
import Derived.Test.YtmmacoooblaniaaGreatMMd
set_option maxHeartbeats 64000000
set_option linter.unusedVariables false
set_option linter.unusedSimpArgs false
set_option maxRecDepth 100000
open Go.IntKind (i64 u64)
open Int renaming ofNat -> O
open Nat renaming le_refl -> Z
open Go.Proofs.YtmmacoooblaniaaGreat.Sx.V renaming need -> U
namespace Go.Proofs.YtmmacoooblaniaaGreat.En
open Go Go.RowKit Sx Cn Dc Ck Vc Md
noncomputable section
structure XPb where
 s:Int
 m:Mm
 now:Int
 ln:Int
def pbB (t l:Int) (ln:SC):Blk:=.own 102 6 ([.kb false,.ki .i64 0,.ki .i64 0,i6 t,i6 l,ln].map some)
def pbX:SC:=.ifc 98 14 (.k 0) (.k 0) 0 6
def pbF (t l:Int) (ln:SC):List Col:=frF 13 ln (i6 t) (i6 l) z6 z6 z6 z6 z6 zU zU zU zU
def laPb (t l:Int) (I:XPb->Prop) (s:St):Option (LA XPb):=match find (tmK 3 s) s.H.h,find (frKi 3 s) s.H.h with
 | some bm,some (.row tf cf nf _)=>laMt XPb.m XPb.now XPb.s [(tmK 2,false),(tmK 3,true),(frKi 3,true)] (fun x=>[pbB t l (i6 x.ln),bm,.row tf cf nf (pbF t l (i6 x.ln))])
   (fun q m w s=>fN (tmK 2 s) fun kx=>match ceI kx 5 s.H.h with | some l=>some ⟨q,m,w,l⟩ | none=>none) I s
 | _,_=>none
def conPb:Con:=Con.add fRA cRA (Con.add fDi cDi (Con.add fSm cSm (Con.add fTw xTk (Con.add fLt xLt (conU con0)))))
theorem conPb_ok:zaj P conPb:=.add cRA_ok (.add cDi_ok (.add cSm_ok (.add xTk_ok (.add xLt_ok (conU_ok zaj.nil)))))
def hPb (c:Cf) (v:Ev) (t l d:Int) (cf ln:Nat) (g:Nat->Int):HL:=hMt c v (pbB t l (.ki .i64 1)) (pbF t l (.ki .i64 1)) cf ln g
def vPb (c:Cf) (v:Ev) (t l d:Int) (cf ln lc:Nat) (g:Nat->Int) (I:XPb->Prop) (J1 J2:Int->XPb->Prop):V:=verF P conPb 6 8 fMt [] (.loop XPb [.renT 2] (laPb t l I) (.cut 16 XPb (laCt (laPb t l fun _=>True) J1) .nil (.cut 18 XPb (laCt (laPb t l fun _=>True) J2) .nil (.cut 21 XPb (laCt (laPb t l fun _=>True) J2) .nil .nil))) .nil) (argMq pbX 9 ln lc) ⟨hPb c v t l d cf ln g,18,fun _=>True⟩ (yesF 18)
end
end Go.Proofs.YtmmacoooblaniaaGreat.En
/- Publish: the conditions, printed by program. -/
namespace Go.Proofs.YtmmacoooblaniaaGreat.En
open Go Go.RowKit Sx Cn Dc Ck Vc Md
abbrev znpb2 (l:LP):LP:=(1,.le 1 1)::(1,.pf (∀ (i:Nat),i < 1->1<=1) (by intros; exact Z _))::l
abbrev znpb3 (a0:Ev) (a1:Rm) (a2 a3:Mm) (k:V):V:=U (a0.n<=a0.n/\a0.n<=a1.c) (U (∀ (i e:Nat),i=0/\e < a0.n->a2.g e=a3.g e) k)
abbrev znpb7 (a0:Rk) (a1:Rm) (l:LP):LP:=qE a0.n::qE a1.r::(1,.eq 0 0)::qE a1.e::l
abbrev znpb6 (a0:Ev) (a1:Rm) (a2:Mm) (k:V):V:=nN [(1,.le 1 1)] (U (a0.n<=a0.n/\a0.n<=a1.c) (nN [(1,.pf (∀ (i e:Nat),i=0/\e < a0.n->a2.g e=a2.g e) (by intros; rfl))] k))
abbrev znpb8 (a0:Ev) (a1:Rm) (a2 a3:Mm) (k:V):V:=znpb6 a0 a1 a2 (U (decide (a2.ct > i64.wrap (a3.ct+O 1))=false) k)
abbrev znpb9 (a0:Rk) (a1:Rm) (l:LP):LP:=(1,.le 1 1)::(1,.pf (∀ (i:Nat),i < 1->a0.n<=a0.n) (by intros; exact Z _))::(1,.pf (∀ (i e:Nat),i < 1/\e < a0.n->a0.p e=a0.p e) (by intros; rfl))::(1,.pf (∀ (i e:Nat),i < 1/\e < a0.n->a0.pa e=a0.pa e) (by intros; rfl))::(1,.pf (∀ (i e:Nat),i < 1/\e < a0.n->a0.pc e=a0.pc e) (by intros; rfl))::(1,.pf (∀ (i e:Nat),i < 1/\e < a0.n->a0.lf e=a0.lf e) (by intros; rfl))::(1,.pf (∀ (i e:Nat),i < 1/\e < a0.n->a0.wt e=a0.wt e) (by intros; rfl))::(1,.pf (∀ (i e:Nat),i < 1/\e < a0.n->e=e) (by intros; rfl))::(1,.pf (∀ (i e:Nat),i < 1/\e < a0.n->a0.kl e=a0.kl e) (by intros; rfl))::(1,.pf (∀ (i e:Nat),i < 1/\e < a0.n->a1.k e=a1.k e) (by intros; rfl))::(1,.pf (∀ (i e:Nat),i < 1/\e < a0.n->a0.st e=a0.st e) (by intros; rfl))::(1,.le 1 1)::(1,.pf (∀ (i:Nat),i < 1->0<=0) (by intros; exact Z _))::(5,.pf (∀ (i e:Nat),i < 1/\e < 0->O 0=O 0) (by intros; rfl))::l
abbrev znpb17 (a0:XPb) (a1:Ev) (l:LP):LP:=qE a0.now::qE a1.dr::l
abbrev znpb5 (a0:Ev) (a1:Rm) (a2:Mm) (l:LP):LP:=qE a0.n::qE a1.c::qE a2.lk::qE a2.lc::qE a2.lo::qE a2.ln::qE a2.ct::l
abbrev znpb10 (a0:Rm) (a1:Ev) (a2:Mm) (l:LP):LP:=qE a0.c::qL a1.n::qF a1.n a2.g::l
abbrev znpb11 (a0:Ev) (a1:Rm) (a2:Mm) (l:LP):LP:=znpb5 a0 a1 a2 (znpb10 a1 a0 a2 l)
abbrev znpb19 (a0:Cf) (l:LP):LP:=qE a0.W::qE a0.L::qE a0.C::qE a0.T::qE a0.D::qE a0.H::qE a0.B::qE a0.A::qE a0.P::qE a0.nP::qE a0.rc::qE a0.nU::qE a0.cu::l
abbrev znpb20 (a0:Ev) (a1:Rm) (a2:Mm) (a3:Cf) (l:LP):LP:=znpb11 a0 a1 a2 (znpb19 a3 l)
abbrev znpb22 (a0 a1:Mm) (k:V):V:=U (a0.lk=a1.lk) (U (a0.lc=a1.lc) (U (a0.lo=a1.lo) (U (a0.ln=a1.ln) (U (a0.ct=a1.ct) k))))
abbrev znpb28 (a0:Rk) (a1:Rm) (a2:Ev) (a3:Mm) (k:V):V:=nN (znpb7 a0 a1 (znpb5 a2 a1 a3 [])) (znpb6 a2 a1 a3 k)
abbrev znpb0 (a0:Rk) (l:LP):LP:=(1,.pf (∀ (i:Nat),i < a0.n->a0.kl i<=a0.kl i) (by intros; exact Z _))::(1,.pf (∀ (i e:Nat),i < a0.n/\e < a0.kl i->a0.kd i e=a0.kd i e) (by intros; rfl))::l
abbrev znpb31 (a0:Rk) (a1:Rm) (a2:Ev) (a3:Mm) (a4:XPb) (k:V):V:=nN (znpb9 a0 a1 (qL a0.n::znpb0 a0 (qL a0.n::znpb0 a0 []))) (U (okCm (Cm.mk a2.n a3 a4.now a0 0 (Evs.mk (fun (i:Nat)=>O 0) (fun (i:Nat)=>O 0) (fun (i:Nat)=>O 0) (fun (i:Nat)=>O 0) fun (i:Nat)=>O 0))) k)
abbrev znpbs0 (v:Ev) (y2:Mm) (y0:XPb) (y3:Mm) (J1:Int->XPb->Prop) (c:Cf) (t l:Int) (cf:Nat):V:=nN ((6,.lt 0 1)::znpb2 []) (znpb28 v.x v.a v y2 (nN (qE y0.now::znpb9 v.x v.a [qE v.n,qE v.b.c]) (znpb22 y3 y2 (nN (qE y0.now::znpb7 v.x v.b [(1,.le 1 1)]) (znpb3 v v.b y3 y2 (znpb31 v.x v.b v y2 y0 (nN [(3,.lt2 0 1 0 1),qE v.n,qE v.a.c,qE y2.ct] (znpb8 v v.a y2 y0.m (U (J1 y0.s (XPb.mk y0.s y2 y0.now (i64.wrap (y0.ln+O 1)))) (nN (znpb20 v v.a y2 c [qE v.n,qE v.b.c]) (znpb22 y3 y2 (nN (znpb17 y0 v (znpb7 v.x v.b [qE v.b.c,qL v.n])) (U (∀ (e:Nat),e < v.n->y3.g e=y2.g e) (nN (znpb17 y0 v [qE t,qE l,qE (i64.wrap (y0.ln+O 1)),qE cf,qE cf,(1,.le 1 1),qE (i64.wrap (y0.ln+O 1)),qE t,qE l]) V.ok))))))))))))))
abbrev znpb29 (a0:Mm) (k:V):V:=U (decide (a0.ct > i64.wrap (a0.ct+O 1))=false) (nN [(6,.lt2 0 1 0 1)] k)
abbrev znpbs1 (v:Ev) (y0:XPb):V:=nN (znpb2 []) (znpb28 v.x v.a v y0.m (nN (qE y0.now::znpb9 v.x v.a (znpb5 v v.b y0.m (qE y0.now::znpb7 v.x v.b []))) (znpb6 v v.b y0.m (znpb31 v.x v.b v y0.m y0 (nN [(3,.lt2 0 1 0 1),qE v.n,qE v.a.c,qE y0.m.ct] (znpb6 v v.a y0.m (znpb29 y0.m (nN (znpb2 []) (znpb28 v.x v.a v y0.m (nN (qE y0.now::znpb9 v.x v.a (znpb5 v v.b y0.m (qE y0.now::znpb7 v.x v.b []))) (znpb6 v v.b y0.m (znpb31 v.x v.b v y0.m y0 (U True V.ok)))))))))))))
abbrev znpb4 (l:LP):LP:=(1,.le 0 1)::(1,.pf (∀ (i:Nat),i < 0->0<=0) (by intros; exact Z _))::l
abbrev znpb12 (a0:Rk) (a1:Rm) (a2:Ev) (a3:Mm) (l:LP):LP:=znpb7 a0 a1 (znpb10 a1 a2 a3 l)
abbrev znpb13 (a0:Int) (k:V):V:=nN [(12,.lt 0 1)] (U (decide (a0 >= O 0)=true) k)
abbrev znpb14 (a0:Rk) (k:V):V:=nN [(1,.le 0 1)] (U (∀ (i:Nat),i < 0->0<=a0.n) k)
abbrev znpb15 (a0:XPb) (k:V):V:=U ((O 200 - i64.wrap (a0.s+O 1)).toNat < (O 200 - a0.s).toNat) (nN [qE (i64.wrap (a0.s+O 1))] k)
abbrev znpb16 (a0:XPb) (a1:Nat) (k:V):V:=U (O 0<=a0.s/\a0.s < (↑a1:Int)) (U (0 < 1/\0+a0.s.toNat < a1) (U (0 < 1/\0+a0.s.toNat < a1) k))
abbrev znpb18 (a0:Ev) (a1:Rm) (a2:Mm) (a3:XPb) (a4:Rk) (l:LP):LP:=znpb5 a0 a1 a2 (znpb17 a3 a0 (znpb12 a4 a1 a0 a2 l))
abbrev znpb21 (a0:Ev) (a1:Rm) (a2:Mm) (a3:Cf) (a4:Rm) (a5:XPb) (a6:Rk) (l:LP):LP:=znpb20 a0 a1 a2 a3 (znpb18 a0 a4 a2 a5 a6 l)
abbrev zdt (a0:XPb) (l:LP):LP:=(1,.le 1 1)::qE a0.ln::l
abbrev znpb24 (a0:Nat) (k:V):V:=nN [(6,.lt2 0 1 0 1)] (U (O 0<=O 0/\O 0<=O 0/\O 0<=(↑a0:Int)) (nN [(12,.lt2 0 1 0 1)] k))
abbrev znpb25 (l:LP):LP:=(7,.lt2 0 1 0 1)::(3,.lt 0 1)::(7,.lt2 0 1 0 1)::l
abbrev znpb26 (k:V):V:=U True (U (false=true) k)
abbrev znpb1 (l:LP):LP:=(1,.le 0 0)::(1,.pf (∀ (i:Nat),i < 0->0<=0) (by intros; exact Z _))::l
abbrev znpb27 (l:LP):LP:=znpb1 (znpb1 l)
abbrev zea (a0:Ev) (a1:Rm) (a2:Mm) (a3:Cf) (a4:Rm) (a5:XPb) (a6:Rk) (l:LP):LP:=znpb21 a0 a1 a2 a3 a4 a5 a6 (znpb17 a5 a0 l)
theorem vPb_eq (c:Cf) (v:Ev) (t l d:Int) (cf ln lc:Nat) (g:Nat->Int) (I:XPb->Prop) (J1 J2:Int->XPb->Prop):V.pr (.b (.b (.b (.b (.t (.f (.f .z))) (.b (.t (.t (.b .z (.t (.f .z))))) (.b (.t (.t (.b .z (.f (.t (.f .z)))))) (.t (.t (.b (.f .z) (.f (.f (.f .z))))))))) (.f (.f .z))) .z) .z) (vPb c v t l d cf ln lc g I J1 J2)=
 nN [(7,.lt2 0 1 0 1)] (U (I (XPb.mk (O 0) v.m v.now (O 1))) (nN ((1,.eqI 0 0)::znpb20 v v.a v.m c (znpb5 v v.b v.m (qE v.now::qE v.dr::znpb12 v.x v.b v v.m [qE v.now,qE v.dr,qE t,qE l,(1,.eqI 1 1),qE cf,qE cf,(1,.le 1 1),(1,.eqI 1 1),qE t,qE l]))) (V.any XPb I fun y0=>V.br (decide (y0.s < O 9)) (nN (zea v v.a y0.m c v.b y0 v.x (qE t::qE l::qE y0.ln::qE cf::qE cf::zdt y0 [qE t,qE l])) (V.any Bool (fun (x:Bool)=>True) fun y1=>V.br y1 (nN [(9,.lt2 0 1 0 1),qE v.n,qE v.a.c,qE y0.m.ct] (znpb6 v v.a y0.m (V.br (decide (t >= O 0)) (nN [(4,.lt2 0 1 0 1)] (V.br (!decide (t < c.T)) (nN (znpb25 []) (znpb13 t (U (decide (t < c.T)=false) (znpb24 cf (znpbs1 v y0))))) (V.br (y0.ln == O 1) (nN [(19,.lt2 0 1 0 1),qE c.W,qE c.L,qE c.C,qE c.T,qE c.D,qE c.H,qE (lS c),qE (lE c),qE (lB c),qE (lQ c),qE (lT c),qE t,(1,.eqI 1 1)] (U (okYn c.W c.L c.C c.T c.D c.H/\lT c=lTn c.W c.L c.C c.D c.H/\O 0<=O 1/\O 1<=O 4) (nN ((3,.lt2 0 1 0 1)::qE (tkN c.W c.L c.C c.T c.D c.H t (O 1))::qE (u64.wrap l)::znpb11 v v.a y0.m [qX (y0.m.acc v.n (O 2) (tkN c.W c.L c.C c.T c.D c.H t (O 1)) (u64.wrap l))]) (V.any Mm (fun (m':Mm)=>m'=y0.m.acc v.n (O 2) (tkN c.W c.L c.C c.T c.D c.H t (O 1)) (u64.wrap l)) fun y2=>nN (znpb25 []) (znpb13 t (U (decide (t < c.T)=true) (V.br (!decide (t < (↑v.x.n:Int))) (znpb24 cf (znpb26 V.ok)) (nN [(6,.lt 0 1)] (U ((y0.ln == O 1)=true) (nN ((16,.lt2 0 1 0 1)::znpb19 c (qE t::(1,.eqI 1 1)::znpb27 [])) (U (okYn c.W c.L c.C c.T c.D c.H/\O 0<=O 1/\O 1<=O 4) (nN ((3,.lt2 0 1 0 1)::qE (tkN c.W c.L c.C c.T c.D c.H t (O 1))::qE (u64.wrap l)::(1,.eqI 0 0)::znpb19 c (znpb18 v v.b y0.m y0 v.x (znpb27 []))) (znpb14 v.x (nN (znpb4 [qX (y0.m.acc v.n (O 2) (tkN c.W c.L c.C c.T c.D c.H t (O 1)) (u64.wrap l))]) (V.any Mm (fun (m':Mm)=>m'=y0.m.acc v.n (O 2) (tkN c.W c.L c.C c.T c.D c.H t (O 1)) (u64.wrap l)) fun y3=>znpbs0 v y2 y0 y3 J1 c t l cf))))))))))))))) (V.br (y0.ln == O 2) (nN [(19,.lt2 0 1 0 1),qE c.W,qE c.L,qE c.C,qE c.T,qE c.D,qE c.H,qE (lS c),qE (lE c),qE (lB c),qE (lQ c),qE (lT c),qE t,(1,.eqI 4 4)] (U (okYn c.W c.L c.C c.T c.D c.H/\lT c=lTn c.W c.L c.C c.D c.H/\O 0<=O 4/\O 4<=O 4) (nN ((6,.lt2 0 1 0 1)::qE (tkN c.W c.L c.C c.T c.D c.H t (O 4))::qE (u64.wrap y0.now)::znpb11 v v.a y0.m [qX (y0.m.acc v.n (O 2) (tkN c.W c.L c.C c.T c.D c.H t (O 4)) (u64.wrap y0.now))]) (V.any Mm (fun (m':Mm)=>m'=y0.m.acc v.n (O 2) (tkN c.W c.L c.C c.T c.D c.H t (O 4)) (u64.wrap y0.now)) fun y2=>nN (znpb25 []) (znpb13 t (U (decide (t < c.T)=true) (V.br (!decide (t < (↑v.x.n:Int))) (znpb24 cf (znpb26 V.ok)) (nN [(6,.lt 0 1)] (U ((y0.ln == O 1)=false) (U ((y0.ln == O 2)=true) (nN ((16,.lt2 0 1 0 1)::znpb19 c (qE t::(1,.eqI 4 4)::znpb27 [])) (U (okYn c.W c.L c.C c.T c.D c.H/\O 0<=O 4/\O 4<=O 4) (nN ((3,.lt2 0 1 0 1)::qE (tkN c.W c.L c.C c.T c.D c.H t (O 4))::qE (u64.wrap y0.now)::(1,.eqI 0 0)::znpb19 c (znpb18 v v.b y0.m y0 v.x (znpb27 []))) (znpb14 v.x (nN (znpb4 [qX (y0.m.acc v.n (O 2) (tkN c.W c.L c.C c.T c.D c.H t (O 4)) (u64.wrap y0.now))]) (V.any Mm (fun (m':Mm)=>m'=y0.m.acc v.n (O 2) (tkN c.W c.L c.C c.T c.D c.H t (O 4)) (u64.wrap y0.now)) fun y3=>znpbs0 v y2 y0 y3 J1 c t l cf)))))))))))))))) (nN [(19,.lt2 0 1 0 1),qE c.W,qE c.L,qE c.C,qE c.T,qE c.D,qE c.H,qE (lS c),qE (lE c),qE (lB c),qE (lQ c),qE (lT c),qE t,(1,.eqI 0 0)] (U (okYn c.W c.L c.C c.T c.D c.H/\lT c=lTn c.W c.L c.C c.D c.H/\O 0<=O 0/\O 0<=O 4) (nN (qE (tkN c.W c.L c.C c.T c.D c.H t (O 0))::(1,.eqI 1 1)::znpb11 v v.a y0.m [qX (y0.m.acc v.n (O 2) (tkN c.W c.L c.C c.T c.D c.H t (O 0)) (O 1))]) (V.any Mm (fun (m':Mm)=>m'=y0.m.acc v.n (O 2) (tkN c.W c.L c.C c.T c.D c.H t (O 0)) (O 1)) fun y2=>nN (znpb25 []) (znpb13 t (U (decide (t < c.T)=true) (V.br (!decide (t < (↑v.x.n:Int))) (znpb24 cf (nN (znpb2 []) (znpb28 v.x v.a v y2 (nN (qE y0.now::znpb9 v.x v.a [qE v.n,qE v.b.c]) (znpb22 y0.m y2 (nN (qE y0.now::znpb7 v.x v.b [(1,.le 1 1)]) (znpb3 v v.b y0.m y2 (znpb31 v.x v.b v y2 y0 (nN [(3,.lt2 0 1 0 1),qE v.n,qE v.a.c,qE y2.ct] (znpb8 v v.a y2 y0.m (nN [(6,.lt2 0 1 0 1)] (znpb26 V.ok)))))))))))) (nN [(6,.lt 0 1)] (U ((y0.ln == O 1)=false) (U ((y0.ln == O 2)=false) (nN ((16,.lt2 0 1 0 1)::znpb19 c (qE t::(1,.eqI 0 0)::znpb27 [])) (U (okYn c.W c.L c.C c.T c.D c.H/\O 0<=O 0/\O 0<=O 4) (nN (qE (tkN c.W c.L c.C c.T c.D c.H t (O 0))::(1,.eqI 1 1)::(1,.eqI 0 0)::znpb19 c (znpb18 v v.b y0.m y0 v.x (znpb27 []))) (znpb14 v.x (nN (znpb4 [qX (y0.m.acc v.n (O 2) (tkN c.W c.L c.C c.T c.D c.H t (O 0)) (O 1))]) (V.any Mm (fun (m':Mm)=>m'=y0.m.acc v.n (O 2) (tkN c.W c.L c.C c.T c.D c.H t (O 0)) (O 1)) fun y3=>znpb24 cf (nN (znpb2 []) (znpb28 v.x v.a v y2 (nN (qE y0.now::znpb9 v.x v.a [qE v.n,qE v.b.c]) (znpb22 y3 y2 (nN (qE y0.now::znpb7 v.x v.b [(1,.le 1 1)]) (znpb3 v v.b y3 y2 (znpb31 v.x v.b v y2 y0 (nN [(3,.lt2 0 1 0 1),qE v.n,qE v.a.c,qE y2.ct] (znpb8 v v.a y2 y0.m (nN ((6,.lt2 0 1 0 1)::znpb2 []) (znpb28 v.x v.a v y2 (nN (qE y0.now::znpb9 v.x v.a [qE v.n,qE v.b.c]) (znpb22 y3 y2 (nN (qE y0.now::znpb7 v.x v.b [(1,.le 1 1)]) (znpb3 v v.b y3 y2 (znpb31 v.x v.b v y2 y0 (U True V.ok))))))))))))))))))))))))))))))))))))) (nN (znpb25 [(12,.lt 0 1)]) (U (decide (t >= O 0)=false) (znpb24 cf (znpbs1 v y0))))))) (V.any XPb (J1 y0.s) fun y2=>nN (zea v v.a y2.m c v.b y2 v.x (qE t::qE l::qE y2.ln::qE cf::qE cf::zdt y2 [qE t,qE l])) (V.any Bool (fun (x:Bool)=>True) fun y3=>V.br y3 (V.br (decide (y0.s < (↑ln:Int))) (znpb16 y0 ln (nN [(1,.neI 3 0)] (V.br ((g (0+y0.s.toNat)).tmod (O 3) == O 1) (znpb16 y0 ln (nN [(1,.neI 3 0)] (znpb16 y0 ln (nN ((1,.neI 7 0)::qE (i64.wrap ((g (0+y0.s.toNat)).tdiv (O 3)))::qE (i64.wrap ((g (0+y0.s.toNat)).tdiv (O 7)))::znpb2 (znpb21 v v.a y2.m c v.b y2 v.x (znpb27 []))) (znpb14 v.x (nN (znpb4 []) (U (v.n<=1000000/\okMw (O 1000000000) y2.m) (nA (okMw (y2.m.ct+O 1)) fun y4=>U (J2 y0.s (XPb.mk y0.s y4 y2.now y2.ln)) (nN (zea v v.a y4 c v.b y2 v.x (qE t::qE l::qE y2.ln::qE cf::qE cf::zdt y2 [qE t,qE l])) V.ok))))))))) (U (J2 y0.s { y2 with s:=y0.s }) (nN (zea v v.a y2.m c v.b y2 v.x (qE t::qE l::qE y2.ln::qE cf::qE cf::zdt y2 [qE t,qE l])) V.ok))))) (U (J2 y0.s { y2 with s:=y0.s }) (nN (zea v v.a y2.m c v.b y2 v.x (qE t::qE l::qE y2.ln::qE cf::qE cf::zdt y2 [qE t,qE l])) V.ok))) (V.any XPb (J2 y0.s) fun y4=>nN (zea v v.a y4.m c v.b y4 v.x (qE t::qE l::qE y4.ln::qE cf::qE cf::zdt y4 [qE t,qE l])) (V.any Bool (fun (x:Bool)=>True) fun y5=>V.br y5 (V.br (decide (y0.s < (↑ln:Int))) (znpb16 y0 ln (nN [(1,.neI 13 0)] (V.br ((g (0+y0.s.toNat)).tmod (O 13) == O 5) (nN [(3,.lt2 0 1 0 1)] (U (J2 y0.s (XPb.mk y0.s y4.m (i64.wrap (y4.now+O 1)) y4.ln)) (nN (znpb20 v v.a y4.m c (znpb5 v v.b y4.m (qE (i64.wrap (y4.now+O 1))::qE v.dr::znpb12 v.x v.b v y4.m (qE (i64.wrap (y4.now+O 1))::qE v.dr::qE t::qE l::qE y4.ln::qE cf::qE cf::zdt y4 [qE t,qE l])))) V.ok))) (U (J2 y0.s { y4 with s:=y0.s }) (nN (zea v v.a y4.m c v.b y4 v.x (qE t::qE l::qE y4.ln::qE cf::qE cf::zdt y4 [qE t,qE l])) V.ok))))) (U (J2 y0.s { y4 with s:=y0.s }) (nN (zea v v.a y4.m c v.b y4 v.x (qE t::qE l::qE y4.ln::qE cf::qE cf::zdt y4 [qE t,qE l])) V.ok))) (V.any XPb (J2 y0.s) fun y6=>V.br (y0.s == O 2) (U (I { y6 with s:=i64.wrap (y0.s+O 1) }) (znpb15 y0 (nN (zea v v.a y6.m c v.b y6 v.x (qE t::qE l::qE y6.ln::qE cf::qE cf::zdt y6 [qE t,qE l])) V.ok))) (U (I { y6 with s:=i64.wrap (y0.s+O 1) }) (znpb15 y0 (nN (zea v v.a y6.m c v.b y6 v.x (qE t::qE l::qE y6.ln::qE cf::qE cf::zdt y6 [qE t,qE l])) V.ok)))))))))) (U True V.ok)))):=by kernel_rfl
end Go.Proofs.YtmmacoooblaniaaGreat.En
/- Publish of the table, step by step: the conditions hold; the contract of Match. -/
namespace Go.Proofs.YtmmacoooblaniaaGreat.En
open Go Go.RowKit Sx Cn Dc Ck Vc Md
def iPb (x:XPb):Prop:=rI x.s x.m
def jPb (b q:Int) (x:XPb):Prop:=rM b q x.m
theorem vhPb {c:Cf} {v:Ev} {t l d:Int} {cf ln lc:Nat} {g:Nat->Int} (h:okMq c v):zae (vPb c v t l d cf ln lc g iPb (jPb 1) (jPb 2)):=by
 refine zae.pr (vPb_eq ..) ?_
 (with_reducible repeat' first | exact V.okI | refine V.brT ?_ | refine V.brF ?_ | refine V.brI ?_ ?_ | refine V.anyI ?_ | refine nN_h rfl ?_ | refine V.needI ?_ ?_ | intro _)
 all_goals first
  | assumption
  | exact True.intro
  | exact Nat.zero_le _
  | exact q_cm ‹_›
  | exact q_ka ‹_›
  | exact q_kb ‹_›
  | exact q_j ‹_› ‹_› (by decide) ‹_› (wrap_ok _)
  | exact q_j ‹_› ‹_› (by decide) ‹_› (by decide)
  | exact q_2 ‹_›
  | exact q_2d ‹_› ‹_›
  | exact q_i ‹_›
  | exact q_mu ‹_› ‹_› (by decide)
  | exact q_di (q_n ‹_›) ‹_›
  | exact q_ex ‹_›
  | exact q_r ‹_› ‹_›
  | exact q_r2 ‹_› ‹_›
  | exact q_m0 ‹_›
  | exact q_yk ‹_› (by decide)
  | exact ⟨h.1,rfl,by decide,by decide⟩
  | (exfalso; exact q_tn ‹_› (by with_reducible assumption) (by with_reducible assumption))
  | exact q_nt (by with_reducible assumption)
  | exact q_nf (by with_reducible assumption)
  | exact q_ctf ‹_› ‹_› (by decide) ‹_›
  | exact q_ctg ‹_› ‹_› (by decide)
  | (subst_vars; rfl)
  | decide
  | exact Nat.zero_lt_one
  | exact Int.le_refl 0
  | exact ⟨v.m,trivial⟩
  | exact ⟨by decide,by decide,Int.natCast_nonneg _⟩
  | trace_state
noncomputable section
def cPb:List SV->Hp->Out (SV×Hp):=cMq 13 9 pbX hPb okMq
theorem cPb_ok:zab P fMt cPb:=cMq_ok fun c v a b d cf ln lc g=>zai conPb_ok fun h=>vhPb h
end
end Go.Proofs.YtmmacoooblaniaaGreat.En
