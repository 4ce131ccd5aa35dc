/- Push of levels, step by step with the reference's: what is asked. -/
import Derived.Test.YtpcbjiielfadnaaGreatMEnLp
import Derived.Test.YtpcbjiielfadnaaGreatMEg
import Derived.Test.YtpcbjiielfadnaaGreatMW
import Derived.Test.YtpcbjiielfadnaaGreatMV
import Derived.Test.YtpcbjiielfadnaaGreatMEnLr
import Derived.Test.YtpcbjiielfadnaaGreatMMd
set_option maxHeartbeats 64000000
set_option linter.unusedVariables false
set_option linter.unusedSimpArgs false
set_option maxRecDepth 100000
open Go.IntKind (i64 u64)
open Int renaming ofNat -> O
open Nat renaming le_refl -> Z
open Go.Proofs.YtpcbjiielfadnaaGreat.Sx.V renaming need -> U, br -> zq, ok -> zw, any -> zf
namespace Go.Proofs.YtpcbjiielfadnaaGreat.En
open Go Go.RowKit Sx Cn Dc Ck Vc Md
noncomputable section
structure XLq where
 s:Int
 m:Mm
 now:Int
 y:Lp
def insLq (s:St):Nat:=insK 2 7 [217,220] s
def shLq (s:St):Nat:=fN (tmK 2 s) fun k=>puN k 7 s.H.h
def laLq (c:Cf) (w l v:Int) {X:Type} (gx:X->XLq) (sh:X->Nat) (rx:St->XLq->Option X) (I:X->Prop) (s:St):Option (LA X):=match maL 3 s with
 | some ma=>fN (insLq s) fun ki=>laMt (fun x=>(gx x).m) (fun x=>(gx x).now) (fun x=>(gx x).s) [(tmK 2,false),(tmK 3,true),(frKi 3,false),(insLq,false)]
   (fun x=>lpB (i6 w) (i6 l) (i6 v) (psL (sh x)) (psI ki (sh x))::(ma (psF (i6 w) (i6 l) (i6 v) (gx x).y (sh x)) (psM (sh x)) (gx x).y.cf++[psB (bmN c.W c.C c.H w) (i6 l) (i6 v) (gx x).y (sh x)]))
   (fun q m now s=>fN (tmK 2 s) fun kx=>match ceS (tmK 3 s) 0 s.H.h with | some (_,_,cf)=>(match psR kx 7 (frKi 3 s) cf s.H.h with | some y=>rx s ⟨q,m,now,y⟩ | none=>none) | none=>none) I s
 | none=>none
def laLs (c:Cf) (w l v:Int) (I:Nat×XLq->Prop):St->Option (LA (Nat×XLq)):=laLq c w l v (fun x=>x.2) (fun x=>x.1) (fun s x=>fN (shLq s) fun n=>some (n,x)) I
def laLn (c:Cf) (w l v:Int) (J:Int->XLq->Prop) (s:St):Option (LA (Nat×XLq)):=fN (shLq s) fun n=>laCt (laLq c w l v (fun x=>x.2) (fun x=>nx4 4 n x.1) (fun s x=>fN (shLq s - n) fun d=>some (d,x)) fun _=>True) (fun q x=>x.1=1/\J q x.2) s
def laLc (c:Cf) (w l v:Int) (J:Int->XLq->Prop) (s:St):Option (LA XLq):=fN (shLq s) fun n=>laCt (laLq c w l v (fun x=>x) (fun _=>n) (fun _ x=>some x) fun _=>True) J s
def cnLq:Con:=Con.add fRA cRA (Con.add fDi cDi (Con.add fSm cSm (Con.add fQw xQr (Con.add fRm xBr (Con.add fMk xMk (Con.add fRg xRg (Con.add fQu xQu (Con.add fLb xBl (Con.add fBit xBit (Con.add fCell xCell (conU con0)))))))))))
theorem cnLq_ok:zaj P cnLq:=.add cRA_ok (.add cDi_ok (.add cSm_ok (.add xQr_ok (.add xBr_ok (.add xMk_ok (.add xRg_ok (.add xQu_ok (.add xBl_ok (.add xBit_ok (.add xCell_ok (conU_ok zaj.nil)))))))))))
def lqX:SC:=.ifc tLp 14 (.k 0) (.k 0) 0 8
def hLq (c:Cf) (v:Ev) (a b d:Int) (cf ln:Nat) (g:Nat->Int):HL:=hMt c v (lpB (i6 a) (i6 b) (i6 d) (psL 0) (psI 0 0)) (frL [fLp (i6 a) (i6 b) (i6 d) (k6 1)]) cf ln g
def avLq (c:Cf) (a b d:Int) (I:Nat×XLq->Prop) (J1 J2:Int->XLq->Prop):AV:=.loopS 5 XLq [.renT 2,.ren (frKi 3),.newFam 0 []] (laLs c a b d I) (.cutS 16 1001 XLq (laLn c a b d J1) .nil (.cut 18 XLq (laLc c a b d J2) .nil (.cut 21 XLq (laLc c a b d J2) .nil .nil))) .nil
def vLq (c:Cf) (v:Ev) (a b d:Int) (cf ln lc:Nat) (g:Nat->Int) (I:Nat×XLq->Prop) (J1 J2:Int->XLq->Prop):V:=verF P cnLq 6 8 fMt [] (avLq c a b d I J1 J2) (argMq lqX 20 ln lc) ⟨hLq c v a b d cf ln g,18,fun _=>True⟩ (yesF 18)
end
end Go.Proofs.YtpcbjiielfadnaaGreat.En
/- Push of levels: the conditions, printed by program. -/
namespace Go.Proofs.YtpcbjiielfadnaaGreat.En
open Go Go.RowKit Sx Cn Dc Ck Vc Md
abbrev znlq44 (a0:Lp) (k:V):V:=nN [(6,.lt2 0 1 0 1)] (U (O 0<=O 0/\O 0<=O 1/\O 1<=(↑a0.cf:Int)) k)
abbrev znlq13 (a0:XLq) (a1:Ev) (l:LP):LP:=qE a0.now::qE a1.dr::l
abbrev znlq45 (a0:Ev) (a1 a2:Mm) (a3:XLq) (k:V):V:=U (∀ (e:Nat),e < a0.n->a1.g e=a2.g e) (nN (znlq13 a3 a0 []) k)
abbrev znlq46 (a0:Mm) (a1:Ev) (a2:Lp) (k:Mm->V):V:=nN [qX (a0.acc a1.n (O 2) a2.b (u64.wrap (a2.x+O 1)))] (zf Mm (fun (m':Mm)=>m'=a0.acc a1.n (O 2) a2.b (u64.wrap (a2.x+O 1))) fun v0=>k v0)
abbrev znlq47 (k:V):V:=U (0 < 1+1) (U (0 < 1+1) k)
abbrev znlq12 (a0:Lp) (l:LP):LP:=qE a0.t::qE a0.b::qE a0.r::qE a0.c::l
abbrev znlq20 (a0:Lp) (l:LP):LP:=qE a0.x::qE a0.z::l
abbrev znlq28 (a0 a1 a2:Int) (a3:Lp) (l:LP):LP:=qE a0::qE a1::qE a2::qE a3.cf::qE a3.cf::(1,.le 2 2)::znlq12 a3 (qE a0::qE a2::qE a1::qE a2::l)
abbrev znlq33 (a0 a1 a2:Int) (a3:Lp) (l:LP):LP:=znlq28 a0 a1 a2 a3 (znlq20 a3 (znlq12 a3 (qE a2::l)))
abbrev zfa (a0 a1 a2:Int) (a3:Lp) (k:Bool->V):V:=nN (znlq33 a0 a1 a2 a3 [qE a3.x]) (zf Bool (fun (x:Bool)=>True) fun v0=>k v0)
abbrev znlq6 (a0:Rm) (l:LP):LP:=qE a0.r::(1,.eq 0 0)::qE a0.e::l
abbrev znlq7 (a0:Ev) (a1:Rm) (a2:Mm) (l:LP):LP:=qE a0.n::qE a1.c::qE a2.lk::qE a2.lc::qE a2.lo::qE a2.ln::qE a2.ct::l
abbrev znlq2 (a0:Ev) (a1:Rm) (a2:Mm) (k:V):V:=U (a0.n<=a0.n/\a0.n<=a1.c) (nN [(1,.pf (∀ (i e:Nat),i=0/\e < a0.n->a2.g e=a2.g e) (by intros; rfl))] k)
abbrev znlq38 (a0:Ev) (a1:Rm) (a2:Mm) (k:V):V:=nN [(1,.le 1 1)] (znlq2 a0 a1 a2 k)
abbrev zgl (a0:Rm) (a1:Ev) (a2:Mm) (k:V):V:=nN (znlq6 a0 (znlq7 a1 a0 a2 [])) (znlq38 a1 a0 a2 k)
abbrev zgt (a0:Rm) (a1:Ev) (a2 a3:Mm) (k:V):V:=nN (znlq6 a0 [(1,.le 1 1)]) (U (a1.n<=a1.n/\a1.n<=a0.c) (U (∀ (i e:Nat),i=0/\e < a1.n->a2.g e=a3.g e) k))
abbrev zfu (k:V):V:=U (1 < 1+1) (U (1 < 1+1) k)
abbrev znlq43 (k:V):V:=U (0 < 1/\1 < 1+1) (zfu k)
abbrev znlq51 (k:V):V:=znlq43 (U (1 < 1+1) k)
abbrev znlq9 (a0:Rm) (a1:Ev) (a2:Mm) (l:LP):LP:=qE a0.c::qL a1.n::qF a1.n a2.g::l
abbrev zgv (a0:Rm) (a1:Ev) (a2:Mm) (l:LP):LP:=znlq6 a0 (znlq9 a0 a1 a2 l)
abbrev znlq1 (l:LP):LP:=(1,.le 0 0)::(1,.pf (∀ (i:Nat),i < 0->0<=0) (by intros; exact Z _))::l
abbrev znlq37 (l:LP):LP:=znlq1 (znlq1 l)
abbrev zd7 (a0:Rm) (a1:Ev) (a2:Mm) (a3:Rk) (k:V):V:=nN (zgv a0 a1 a2 (znlq37 [(1,.le 0 1)])) (U (∀ (i:Nat),i < 0->0<=a3.n) (nN [(1,.le 0 1),(1,.pf (∀ (i:Nat),i < 0->0<=0) (by intros; exact Z _))] k))
abbrev znlq53 (a0:Mm) (a1:Ev) (a2:Lp) (a3:Int) (k:Mm->V):V:=nN [qX (a0.acc a1.n (O 2) (zfi a2.r a2.c a2.x) (u64.wrap a3))] (zf Mm (fun (m':Mm)=>m'=a0.acc a1.n (O 2) (zfi a2.r a2.c a2.x) (u64.wrap a3)) fun v0=>k v0)
abbrev znlq0 (a0:Rk) (l:LP):LP:=(1,.pf (∀ (i:Nat),i < a0.n->a0.kl i<=a0.kl i) (by intros; exact Z _))::(1,.pf (∀ (i e:Nat),i < a0.n/\e < a0.kl i->a0.kd i e=a0.kd i e) (by intros; rfl))::l
abbrev zfw (a0:Rk) (a1:Rm) (l:LP):LP:=(1,.le 1 1)::(1,.pf (∀ (i:Nat),i < 1->a0.n<=a0.n) (by intros; exact Z _))::(1,.pf (∀ (i e:Nat),i < 1/\e < a0.n->a0.p e=a0.p e) (by intros; rfl))::(1,.pf (∀ (i e:Nat),i < 1/\e < a0.n->a0.pa e=a0.pa e) (by intros; rfl))::(1,.pf (∀ (i e:Nat),i < 1/\e < a0.n->a0.pc e=a0.pc e) (by intros; rfl))::(1,.pf (∀ (i e:Nat),i < 1/\e < a0.n->a0.lf e=a0.lf e) (by intros; rfl))::(1,.pf (∀ (i e:Nat),i < 1/\e < a0.n->a0.wt e=a0.wt e) (by intros; rfl))::(1,.pf (∀ (i e:Nat),i < 1/\e < a0.n->e=e) (by intros; rfl))::(1,.pf (∀ (i e:Nat),i < 1/\e < a0.n->a0.kl e=a0.kl e) (by intros; rfl))::(1,.pf (∀ (i e:Nat),i < 1/\e < a0.n->a1.k e=a1.k e) (by intros; rfl))::(1,.pf (∀ (i e:Nat),i < 1/\e < a0.n->a0.st e=a0.st e) (by intros; rfl))::(1,.le 1 1)::(1,.pf (∀ (i:Nat),i < 1->0<=0) (by intros; exact Z _))::(5,.pf (∀ (i e:Nat),i < 1/\e < 0->O 0=O 0) (by intros; rfl))::l
abbrev zgy (a0:Rk) (a1:Rm) (l:LP):LP:=zfw a0 a1 (qL a0.n::znlq0 a0 l)
abbrev znlq4 (a0:XLq) (k:V):V:=U ((O 200 - i64.wrap (a0.s+O 1)).toNat < (O 200 - a0.s).toNat) (nN [qE (i64.wrap (a0.s+O 1))] k)
abbrev zfz (l:LP):LP:=(1,.le 1 1)::(1,.pf (∀ (i:Nat),i < 1->1<=1) (by intros; exact Z _))::l
abbrev znlq8 (a0:XLq) (a1:Nat) (k:V):V:=U (O 0<=a0.s/\a0.s < (↑a1:Int)) (U (0 < 1/\0+a0.s.toNat < a1) (U (0 < 1/\0+a0.s.toNat < a1) k))
abbrev zck (a0:Ev) (a1:Rm) (a2:Mm) (l:LP):LP:=znlq7 a0 a1 a2 (znlq9 a1 a0 a2 l)
abbrev znlq14 (a0:Int->XLq->Prop) (a1:XLq) (k:XLq->V):V:=U (∀ (x_2:Nat×XLq),x_2.fst=1/\a0 a1.s x_2.snd->x_2.fst=1) (zf XLq (fun (x_2:XLq)=>1=1/\a0 a1.s x_2) fun v0=>k v0)
abbrev znlq15 (a0:Nat->Int) (a1:XLq) (l:LP):LP:=qE (i64.wrap ((a0 (0+a1.s.toNat)).tdiv (O 3)))::qE (i64.wrap ((a0 (0+a1.s.toNat)).tdiv (O 7)))::l
abbrev zdi (a0:Cf) (l:LP):LP:=qE a0.W::qE a0.L::qE a0.C::qE a0.T::qE a0.D::qE a0.H::qE a0.B::qE a0.A::qE a0.P::qE a0.nP::qE a0.rc::qE a0.nU::qE a0.cu::l
abbrev zgp (a0:Cf) (a1:Ev) (a2:Rm) (a3:Mm) (a4:XLq) (l:LP):LP:=zdi a0 (znlq7 a1 a2 a3 (znlq13 a4 a1 l))
abbrev znlq18 (a0:Ev) (a1:Rm) (a2:Mm) (a3:Cf) (a4:Rm) (a5:XLq) (l:LP):LP:=zck a0 a1 a2 (zgp a3 a0 a4 a2 a5 l)
abbrev znlq21 (a0:Ev) (a1:Rm) (a2 a3:Mm) (k:V):V:=znlq2 a0 a1 a2 (U (decide (a2.ct > i64.wrap (a3.ct+O 1))=false) k)
abbrev zej (a0:XLq) (a1:Ev) (l:LP):LP:=qE (i64.wrap (a0.now+O 1))::qE a1.dr::l
abbrev znlq23 (a0:Ev) (a1:Mm) (k:Mm->V):V:=U (a0.n<=1000000/\okMw (O 1000000000) a1) (nA (okMw (a1.ct+O 1)) fun v0=>k v0)
abbrev znlq24 (a0:Rk) (a1:Rm) (a2:Ev) (a3:Mm) (a4:XLq) (l:LP):LP:=qE a0.n::zgv a1 a2 a3 (znlq13 a4 a2 l)
abbrev za8 (a0:Ev) (a1:Rm) (a2:Mm) (a3:Cf) (a4:Rm) (a5:XLq) (a6:Rk) (l:LP):LP:=znlq18 a0 a1 a2 a3 a4 a5 (znlq24 a6 a4 a0 a2 a5 l)
abbrev zb2 (a0:Int->XLq->Prop) (a1 a2:XLq) (a3:Ev) (a4:Rm) (a5:Mm) (a6:Cf) (a7:Rm) (a8:Rk) (k:V):V:=U (a0 a1.s { a2 with s:=a1.s }) (nN (zck a3 a4 a5 (zgp a6 a3 a7 a5 a2 (znlq24 a8 a7 a3 a5 a2 []))) k)
abbrev znlq27 (a0:Int->XLq->Prop) (a1:XLq) (a2:Mm) (a3:XLq) (a4:Lp) (k:V):V:=nN [(3,.lt2 0 1 0 1)] (U (a0 a1.s (XLq.mk a1.s a2 (i64.wrap (a3.now+O 1)) a4)) k)
abbrev zbt (a0 a1 a2:Int) (a3:Lp) (a4:Cf) (l:LP):LP:=znlq28 a0 a1 a2 a3 (znlq20 a3 (qE (bmN a4.W a4.C a4.H a0)::l))
abbrev znlq30 (a0:Nat×XLq->Prop) (a1 a2:XLq) (k:V):V:=U (a0 (4,{ a1 with s:=i64.wrap (a2.s+O 1) })) (znlq4 a2 k)
abbrev zdr (a0 a1:Mm) (k:V):V:=U (a0.lk=a1.lk) (U (a0.lc=a1.lc) (U (a0.lo=a1.lo) (U (a0.ln=a1.ln) (U (a0.ct=a1.ct) k))))
abbrev znlq32 (a0:Mm) (a1:Ev) (a2:Lp) (k:Mm->V):V:=nN [qX (a0.acc a1.n (O 1) a2.t (a0.val a1.n a2.t))] (zf Mm (fun (m':Mm)=>m'=a0.acc a1.n (O 1) a2.t (a0.val a1.n a2.t)) fun v0=>k v0)
abbrev znlq3 (a0:Rk) (a1:Ev) (a2:Mm) (a3:XLq) (k:V):V:=nN (znlq0 a0 []) (U (okCm (Cm.mk a1.n a2 a3.now a0 0 (Evs.mk (fun (i:Nat)=>O 0) (fun (i:Nat)=>O 0) (fun (i:Nat)=>O 0) (fun (i:Nat)=>O 0) fun (i:Nat)=>O 0))) k)
abbrev zbi (a0 a1 a2:Int) (a3:Lp) (l:LP):LP:=znlq33 a0 a1 a2 a3 (qE a3.x::l)
abbrev znlq36 (l:LP):LP:=(6,.lt2 0 1 0 1)::(1,.lt2 0 1 1 2)::l
abbrev znlq39 (a0:Int) (k:Bool->V):V:=nN [qE a0] (zf Bool (fun (x:Bool)=>True) fun v0=>k v0)
abbrev znlq40 (k:V):V:=U (0 < 1/\1 < 1+1) (U (0 < 1/\1 < 1+1) k)
abbrev znlq41 (k:Nat->V):V:=U (1+1<=9223372036854775807/\(1+1) * 160<=140737488355328) (zf Nat (fun (x:Nat)=>1+1<=x) fun v0=>k v0)
abbrev zek (a0:XLq) (a1:Nat) (k:V):V:=znlq8 a0 a1 (nN [(1,.neI 3 0)] k)
theorem vLq_eq (c:Cf) (v:Ev) (a b d:Int) (cf ln lc:Nat) (g:Nat->Int) (I:Nat×XLq->Prop) (J1 J2:Int->XLq->Prop):V.pr (.b (.b (.b (.f .z) .z) .z) (.b (.b (.b (.b (.t (.f .z)) (.f (.f .z))) .z) .z) (.b (.b (.b (.f .z) .z) .z) (.b (.b (.b (.f .z) .z) .z) (.b (.b (.b (.f .z) .z) .z) .z))))) (vLq c v a b d cf ln lc g I J1 J2)=
 nN [(7,.lt2 0 1 0 1)] (U (I (0,XLq.mk (O 0) v.m v.now (Lp.mk (O 0) (O 0) (O 0) (O 0) (O 0) (O 0) cf))) (nN ((1,.eqI 0 0)::zck v v.a v.m (zdi c (znlq7 v v.b v.m (qE v.now::qE v.dr::qE v.x.n::zgv v.b v v.m [qE v.now,qE v.dr,qE a,qE b,qE d,qE cf,qE cf,(1,.le 1 1),qE a,qE b,qE d])))) (U (∀ (i:Nat),i < 0->0<=0/\0<=0) (U (∀ (x:Nat×XLq),I x->x.fst < 5) (zf Bool (fun (x:Bool)=>True) fun y0=>zq y0 (zf XLq (fun (x:XLq)=>I (0,x)) fun y1=>zq (decide (y1.s < O 20)) (nN (za8 v v.a y1.m c v.b y1 v.x (qE a::qE b::qE d::qE y1.y.cf::qE y1.y.cf::(1,.le 1 1)::qE a::qE b::qE d::znlq1 [])) (zf Bool (fun (x:Bool)=>True) fun y2=>zq y2 (nN [(9,.lt2 0 1 0 1),qE v.n,qE v.a.c,qE y1.m.ct] (znlq38 v v.a y1.m (nN [(19,.lt2 0 1 0 1),qE c.W,qE c.L,qE c.C,qE c.T,qE c.D,qE c.H,qE (lS c),qE (lE c),qE (lB c),qE (lQ c),qE (lT c),qE a,qE b] (U (okYn c.W c.L c.C c.T c.D c.H/\lQ c=lQn c.W c.C c.H) (nN ((12,.lt2 0 1 0 1)::qE ((quN c.W c.L c.C c.D c.H a b).b)::zck v v.a y1.m [qX (y1.m.acc v.n (O 1) (quN c.W c.L c.C c.D c.H a b).b (y1.m.val v.n (quN c.W c.L c.C c.D c.H a b).b))]) (zf Mm (fun (m':Mm)=>m'=y1.m.acc v.n (O 1) (quN c.W c.L c.C c.D c.H a b).b (y1.m.val v.n (quN c.W c.L c.C c.D c.H a b).b)) fun y3=>nN ((9,.lt2 0 1 0 1)::(6,.lt 0 1)::(19,.lt2 0 1 0 1)::zdi c (qE a::qE b::znlq37 [])) (U (okYn c.W c.L c.C c.T c.D c.H) (nN [(42,.lt2 0 1 0 1)] (U (1<=1/\y1.y.cf=y1.y.cf) (znlq41 fun y4=>nN [(8,.lt2 0 1 0 1)] (znlq51 (nN [(6,.lt2 0 1 0 1)] (znlq43 (zfu (zfu (zfu (zfu (nN (qE ((quN c.W c.L c.C c.D c.H a b).b)::(2,.eqI 0 0)::zgp c v v.b y1.m y1 [qE v.x.n]) (zd7 v.b v y1.m v.x (nN [qX (y1.m.acc v.n (O 1) (quN c.W c.L c.C c.D c.H a b).b (y1.m.val v.n (quN c.W c.L c.C c.D c.H a b).b))] (zf Mm (fun (m':Mm)=>m'=y1.m.acc v.n (O 1) (quN c.W c.L c.C c.D c.H a b).b (y1.m.val v.n (quN c.W c.L c.C c.D c.H a b).b)) fun y5=>zfu (zfu (zfu (zfu (U (1 < 1+1) (nN (zfz [qE v.x.n]) (zgl v.a v y3 (nN (qE y1.now::zfw v.x v.a [qE v.n,qE v.b.c]) (zdr y5 y3 (nN [qE y1.now,qE v.x.n] (zgt v.b v y5 y3 (nN (zgy v.x v.b [qL v.x.n]) (znlq3 v.x v y3 y1 (nN [(3,.lt2 0 1 0 1),qE v.n,qE v.a.c,qE y3.ct,(1,.le 1 1)] (znlq21 v v.a y3 y1.m (U (1=1/\J1 y1.s (XLq.mk y1.s y3 y1.now (Lp.mk (quN c.W c.L c.C c.D c.H a b).t (quN c.W c.L c.C c.D c.H a b).b (quN c.W c.L c.C c.D c.H a b).r (quN c.W c.L c.C c.D c.H a b).c (y1.m.val v.n (quN c.W c.L c.C c.D c.H a b).b) (O 0) y4))) (nN (zck v v.a y3 (zdi c [qE v.n,qE v.b.c])) (zdr y5 y3 (nN (znlq13 y1 v (qE v.x.n::znlq6 v.b [qE v.b.c,qL v.n])) (znlq45 v y5 y3 y1 (nN [qE a,qE b,qE d,qE y4,qE y4] (U (2<=1+1) (nN [qE ((quN c.W c.L c.C c.D c.H a b).t),qE ((quN c.W c.L c.C c.D c.H a b).b),qE ((quN c.W c.L c.C c.D c.H a b).r),qE ((quN c.W c.L c.C c.D c.H a b).c),qE a,qE d,qE b,qE d,qE (y1.m.val v.n (quN c.W c.L c.C c.D c.H a b).b),(1,.eqI 0 0),qE ((quN c.W c.L c.C c.D c.H a b).t),qE ((quN c.W c.L c.C c.D c.H a b).b),qE ((quN c.W c.L c.C c.D c.H a b).r),qE ((quN c.W c.L c.C c.D c.H a b).c),qE d,qE (y1.m.val v.n (quN c.W c.L c.C c.D c.H a b).b)] zw))))))))))))))))))))))))))))))))))))))))))) (znlq14 J1 y1 fun y3=>nN (za8 v v.a y3.m c v.b y3 v.x []) (zfa a b d y3.y fun y4=>zq y4 (zq (decide (y1.s < (↑ln:Int))) (zek y1 ln (zq ((g (0+y1.s.toNat)).tmod (O 3) == O 1) (zek y1 ln (znlq8 y1 ln (nN ((1,.neI 7 0)::znlq15 g y1 (zfz (znlq18 v v.a y3.m c v.b y3 [qE v.x.n]))) (zd7 v.b v y3.m v.x (znlq23 v y3.m fun y5=>U (J2 y1.s (XLq.mk y1.s y5 y3.now y3.y)) (nN (za8 v v.a y5 c v.b y3 v.x (zbi a b d y3.y [])) zw)))))) (zb2 J2 y1 y3 v v.a y3.m c v.b v.x (nN (zbi a b d y3.y []) zw)))) (zb2 J2 y1 y3 v v.a y3.m c v.b v.x (nN (zbi a b d y3.y []) zw))) (zf XLq (J2 y1.s) fun y5=>nN (za8 v v.a y5.m c v.b y5 v.x []) (zfa a b d y5.y fun y6=>zq y6 (zq (decide (y1.s < (↑ln:Int))) (znlq8 y1 ln (nN [(1,.neI 13 0)] (zq ((g (0+y1.s.toNat)).tmod (O 13) == O 5) (znlq27 J2 y1 y5.m y5 y5.y (nN (zck v v.a y5.m (zdi c (znlq7 v v.b y5.m (zej y5 v (qE v.x.n::zgv v.b v y5.m (zej y5 v (zbi a b d y5.y []))))))) zw)) (zb2 J2 y1 y5 v v.a y5.m c v.b v.x (nN (zbi a b d y5.y []) zw))))) (zb2 J2 y1 y5 v v.a y5.m c v.b v.x (nN (zbi a b d y5.y []) zw))) (zf XLq (J2 y1.s) fun y7=>zq (y1.s == O 2) (U (I (1,{ y7 with s:=i64.wrap (y1.s+O 1) })) (znlq4 y1 (nN (za8 v v.a y7.m c v.b y7 v.x (zbi a b d y7.y [])) zw))) (U (I (1,{ y7 with s:=i64.wrap (y1.s+O 1) })) (znlq4 y1 (nN (za8 v v.a y7.m c v.b y7 v.x (zbi a b d y7.y [])) zw)))))))))) (U True zw)) (zf Bool (fun (x:Bool)=>True) fun y1=>zq y1 (zf XLq (fun (x:XLq)=>I (1,x)) fun y2=>zq (decide (y2.s < O 20)) (nN (za8 v v.a y2.m c v.b y2 v.x []) (zfa a b d y2.y fun y3=>zq y3 (nN [(9,.lt2 0 1 0 1),qE v.n,qE v.a.c,qE y2.m.ct] (znlq38 v v.a y2.m (nN ((7,.lt2 0 1 0 1)::qE y2.y.t::zck v v.a y2.m []) (znlq32 y2.m v y2.y fun y4=>nN [(7,.lt2 0 1 0 1)] (zq (decide (i64.wrap (u64.wrap (y2.y.x - y2.m.val v.n y2.y.t)) >= y2.y.c)) (nN ((12,.lt2 0 1 0 1)::(1,.lt2 0 1 1 2)::(3,.lt 1 2)::znlq36 ((10,.lt 1 2)::qE y2.y.t::(2,.eqI 0 0)::zgp c v v.b y2.m y2 [qE v.x.n])) (zd7 v.b v y2.m v.x (znlq32 y2.m v y2.y fun y5=>nN [(3,.lt 1 2),(10,.lt2 0 1 1 2)] (U (decide (i64.wrap (u64.wrap (y2.y.x - y2.m.val v.n y2.y.t)) >= y2.y.c)=true) (znlq44 y2.y (nN [(8,.lt2 0 1 0 1),(1,.lt2 0 1 0 2),(4,.lt2 0 1 0 1),(6,.lt 0 2),(6,.lt2 0 1 0 1)] (U (O 0<=O 0/\O 0<=O 0/\O 0<=(↑y2.y.cf:Int)) (nN ((12,.lt2 0 1 0 1)::zfz [qE v.x.n]) (zgl v.a v y4 (nN (qE y2.now::zfw v.x v.a [qE v.n,qE v.b.c]) (zdr y5 y4 (nN [qE y2.now,qE v.x.n] (zgt v.b v y5 y4 (nN (zgy v.x v.b [qL v.x.n]) (znlq3 v.x v y4 y2 (nN [(3,.lt2 0 1 0 1),qE v.n,qE v.a.c,qE y4.ct,(1,.le 1 1)] (znlq21 v v.a y4 y2.m (nN ((6,.lt2 0 1 0 1)::zfz [qE v.x.n]) (zgl v.a v y4 (nN (qE y2.now::zfw v.x v.a [qE v.n,qE v.b.c]) (zdr y5 y4 (nN [qE y2.now,qE v.x.n] (zgt v.b v y5 y4 (nN (zgy v.x v.b [qL v.x.n]) (znlq3 v.x v y4 y2 (U True zw)))))))))))))))))))))))))) (nN (znlq36 ((3,.lt 1 2)::znlq36 ((10,.lt 1 2)::qE y2.y.t::(2,.eqI 0 0)::zgp c v v.b y2.m y2 [qE v.x.n]))) (zd7 v.b v y2.m v.x (znlq32 y2.m v y2.y fun y5=>nN [(3,.lt 1 2),(10,.lt2 0 1 1 2)] (U (decide (i64.wrap (u64.wrap (y2.y.x - y2.m.val v.n y2.y.t)) >= y2.y.c)=false) (nN ((6,.lt 1 2)::zfz [qE v.x.n]) (zgl v.a v y4 (nN (qE y2.now::zfw v.x v.a [qE v.n,qE v.b.c]) (zdr y5 y4 (nN [qE y2.now,qE v.x.n] (zgt v.b v y5 y4 (nN (zgy v.x v.b [qL v.x.n]) (znlq3 v.x v y4 y2 (nN [(3,.lt2 0 1 0 1),qE v.n,qE v.a.c,qE y4.ct,(1,.le 1 1)] (znlq21 v v.a y4 y2.m (U (1=1/\J1 y2.s (XLq.mk y2.s y4 y2.now { y2.y with z:=y2.m.val v.n y2.y.t })) (nN (zck v v.a y4 (zdi c [qE v.n,qE v.b.c])) (zdr y5 y4 (nN (znlq13 y2 v (qE v.x.n::znlq6 v.b [qE v.b.c,qL v.n])) (znlq45 v y5 y4 y2 (nN (znlq28 a b d y2.y (qE y2.y.x::qE (y2.m.val v.n y2.y.t)::znlq12 y2.y [qE d,qE y2.y.x])) zw))))))))))))))))))))))))) (znlq14 J1 y2 fun y4=>nN (za8 v v.a y4.m c v.b y4 v.x []) (zfa a b d y4.y fun y5=>zq y5 (zq (decide (y2.s < (↑ln:Int))) (zek y2 ln (zq ((g (0+y2.s.toNat)).tmod (O 3) == O 1) (zek y2 ln (znlq8 y2 ln (nN ((1,.neI 7 0)::znlq15 g y2 (zfz (znlq18 v v.a y4.m c v.b y4 [qE v.x.n]))) (zd7 v.b v y4.m v.x (znlq23 v y4.m fun y6=>U (J2 y2.s (XLq.mk y2.s y6 y4.now y4.y)) (nN (za8 v v.a y6 c v.b y4 v.x (zbi a b d y4.y [])) zw)))))) (zb2 J2 y2 y4 v v.a y4.m c v.b v.x (nN (zbi a b d y4.y []) zw)))) (zb2 J2 y2 y4 v v.a y4.m c v.b v.x (nN (zbi a b d y4.y []) zw))) (zf XLq (J2 y2.s) fun y6=>nN (za8 v v.a y6.m c v.b y6 v.x []) (zfa a b d y6.y fun y7=>zq y7 (zq (decide (y2.s < (↑ln:Int))) (znlq8 y2 ln (nN [(1,.neI 13 0)] (zq ((g (0+y2.s.toNat)).tmod (O 13) == O 5) (znlq27 J2 y2 y6.m y6 y6.y (nN (zck v v.a y6.m (zdi c (znlq7 v v.b y6.m (zej y6 v (qE v.x.n::zgv v.b v y6.m (zej y6 v (zbi a b d y6.y []))))))) zw)) (zb2 J2 y2 y6 v v.a y6.m c v.b v.x (nN (zbi a b d y6.y []) zw))))) (zb2 J2 y2 y6 v v.a y6.m c v.b v.x (nN (zbi a b d y6.y []) zw))) (zf XLq (J2 y2.s) fun y8=>zq (y2.s == O 2) (U (I (2,{ y8 with s:=i64.wrap (y2.s+O 1) })) (znlq4 y2 (nN (za8 v v.a y8.m c v.b y8 v.x (zbi a b d y8.y [])) zw))) (U (I (2,{ y8 with s:=i64.wrap (y2.s+O 1) })) (znlq4 y2 (nN (za8 v v.a y8.m c v.b y8 v.x (zbi a b d y8.y [])) zw)))))))))) (U True zw)) (zf Bool (fun (x:Bool)=>True) fun y2=>zq y2 (zf XLq (fun (x:XLq)=>I (2,x)) fun y3=>zq (decide (y3.s < O 20)) (nN (za8 v v.a y3.m c v.b y3 v.x []) (zfa a b d y3.y fun y4=>zq y4 (nN [(9,.lt2 0 1 0 1),qE v.n,qE v.a.c,qE y3.m.ct] (znlq38 v v.a y3.m (nN ((12,.lt2 0 1 0 1)::znlq12 y3.y [qE y3.y.x]) (U (y3.y.c<=O 9223372036854775807) (nN ((3,.lt2 0 1 0 1)::qE (zfi y3.y.r y3.y.c y3.y.x)::qE (u64.wrap d)::zck v v.a y3.m []) (znlq53 y3.m v y3.y d fun y5=>nN (znlq36 ((3,.lt 1 2)::znlq36 ((6,.lt 1 2)::(9,.lt2 0 1 1 2)::znlq12 y3.y [qE y3.y.x]))) (U (y3.y.c<=O 9223372036854775807) (nN ((3,.lt2 0 1 1 2)::qE (zfi y3.y.r y3.y.c y3.y.x)::qE (u64.wrap d)::(1,.eqI 0 0)::zgp c v v.b y3.m y3 [qE v.x.n]) (zd7 v.b v y3.m v.x (znlq53 y3.m v y3.y d fun y6=>nN ((6,.lt 1 2)::zfz [qE v.x.n]) (zgl v.a v y5 (nN (qE y3.now::zfw v.x v.a [qE v.n,qE v.b.c]) (zdr y6 y5 (nN [qE y3.now,qE v.x.n] (zgt v.b v y6 y5 (nN (zgy v.x v.b [qL v.x.n]) (znlq3 v.x v y5 y3 (nN [(3,.lt2 0 1 0 1),qE v.n,qE v.a.c,qE y5.ct,(1,.le 1 1)] (znlq21 v v.a y5 y3.m (U (1=1/\J1 y3.s { y3 with m:=y5 }) (nN (zck v v.a y5 (zdi c [qE v.n,qE v.b.c])) (zdr y6 y5 (nN (znlq13 y3 v (qE v.x.n::znlq6 v.b [qE v.b.c,qL v.n])) (znlq45 v y6 y5 y3 (nN (zbi a b d y3.y []) zw))))))))))))))))))))))))) (znlq14 J1 y3 fun y5=>nN (za8 v v.a y5.m c v.b y5 v.x []) (zfa a b d y5.y fun y6=>zq y6 (zq (decide (y3.s < (↑ln:Int))) (zek y3 ln (zq ((g (0+y3.s.toNat)).tmod (O 3) == O 1) (zek y3 ln (znlq8 y3 ln (nN ((1,.neI 7 0)::znlq15 g y3 (zfz (znlq18 v v.a y5.m c v.b y5 [qE v.x.n]))) (zd7 v.b v y5.m v.x (znlq23 v y5.m fun y7=>U (J2 y3.s (XLq.mk y3.s y7 y5.now y5.y)) (nN (za8 v v.a y7 c v.b y5 v.x (zbi a b d y5.y [])) zw)))))) (zb2 J2 y3 y5 v v.a y5.m c v.b v.x (nN (zbi a b d y5.y []) zw)))) (zb2 J2 y3 y5 v v.a y5.m c v.b v.x (nN (zbi a b d y5.y []) zw))) (zf XLq (J2 y3.s) fun y7=>nN (za8 v v.a y7.m c v.b y7 v.x []) (zfa a b d y7.y fun y8=>zq y8 (zq (decide (y3.s < (↑ln:Int))) (znlq8 y3 ln (nN [(1,.neI 13 0)] (zq ((g (0+y3.s.toNat)).tmod (O 13) == O 5) (znlq27 J2 y3 y7.m y7 y7.y (nN (zck v v.a y7.m (zdi c (znlq7 v v.b y7.m (zej y7 v (qE v.x.n::zgv v.b v y7.m (zej y7 v (zbi a b d y7.y []))))))) zw)) (zb2 J2 y3 y7 v v.a y7.m c v.b v.x (nN (zbi a b d y7.y []) zw))))) (zb2 J2 y3 y7 v v.a y7.m c v.b v.x (nN (zbi a b d y7.y []) zw))) (zf XLq (J2 y3.s) fun y9=>zq (y3.s == O 2) (U (I (3,{ y9 with s:=i64.wrap (y3.s+O 1) })) (znlq4 y3 (nN (za8 v v.a y9.m c v.b y9 v.x (zbi a b d y9.y [])) zw))) (U (I (3,{ y9 with s:=i64.wrap (y3.s+O 1) })) (znlq4 y3 (nN (za8 v v.a y9.m c v.b y9 v.x (zbi a b d y9.y [])) zw)))))))))) (U True zw)) (zf Bool (fun (x:Bool)=>True) fun y3=>zq y3 (zf XLq (fun (x:XLq)=>I (3,x)) fun y4=>zq (decide (y4.s < O 20)) (nN (za8 v v.a y4.m c v.b y4 v.x []) (zfa a b d y4.y fun y5=>zq y5 (nN [(9,.lt2 0 1 0 1),qE v.n,qE v.a.c,qE y4.m.ct] (znlq38 v v.a y4.m (nN ((10,.lt2 0 1 0 1)::qE y4.y.b::qE (u64.wrap (y4.y.x+O 1))::zck v v.a y4.m []) (znlq46 y4.m v y4.y fun y6=>nN [(22,.lt2 0 1 0 1),qE c.W,qE c.L,qE c.C,qE c.T,qE c.D,qE c.H,qE (lS c),qE (lE c),qE (lB c),qE (lQ c),qE (lT c),qE a] (U (okYn c.W c.L c.C c.T c.D c.H/\lB c=O 4+c.H+c.C+c.W) (nN ((13,.lt2 0 1 0 1)::(1,.lt2 0 1 1 2)::(3,.lt 1 2)::znlq36 ((6,.lt 1 2)::(7,.lt2 0 1 1 2)::qE y4.y.b::qE (u64.wrap (y4.y.x+O 1))::(1,.eqI 0 0)::zgp c v v.b y4.m y4 [qE v.x.n])) (zd7 v.b v y4.m v.x (znlq46 y4.m v y4.y fun y7=>znlq44 y4.y (nN ((8,.lt2 0 1 0 1)::(1,.lt2 0 1 0 2)::(4,.lt2 0 1 0 1)::(9,.lt 0 2)::zfz [qE v.x.n]) (zgl v.a v y6 (nN (qE y4.now::zfw v.x v.a [qE v.n,qE v.b.c]) (zdr y7 y6 (nN [qE y4.now,qE v.x.n] (zgt v.b v y7 y6 (nN (zgy v.x v.b [qL v.x.n]) (znlq3 v.x v y6 y4 (nN [(3,.lt2 0 1 0 1),qE v.n,qE v.a.c,qE y6.ct,(1,.le 1 1)] (znlq21 v v.a y6 y4.m (U (1=1/\J1 y4.s { y4 with m:=y6 }) (nN (zck v v.a y6 (zdi c [qE v.n,qE v.b.c])) (zdr y7 y6 (nN (znlq13 y4 v (qE v.x.n::znlq6 v.b [qE v.b.c,qL v.n])) (znlq45 v y7 y6 y4 (nN (zbt a b d y4.y c [qE b]) zw)))))))))))))))))))))))) (znlq14 J1 y4 fun y6=>nN (za8 v v.a y6.m c v.b y6 v.x (zbt a b d y6.y c [])) (znlq39 b fun y7=>zq y7 (zq (decide (y4.s < (↑ln:Int))) (zek y4 ln (zq ((g (0+y4.s.toNat)).tmod (O 3) == O 1) (zek y4 ln (znlq8 y4 ln (nN ((1,.neI 7 0)::znlq15 g y4 (zfz (znlq18 v v.a y6.m c v.b y6 [qE v.x.n]))) (zd7 v.b v y6.m v.x (znlq23 v y6.m fun y8=>U (J2 y4.s (XLq.mk y4.s y8 y6.now y6.y)) (nN (za8 v v.a y8 c v.b y6 v.x (zbt a b d y6.y c [qE b])) zw)))))) (zb2 J2 y4 y6 v v.a y6.m c v.b v.x (nN (zbt a b d y6.y c [qE b]) zw)))) (zb2 J2 y4 y6 v v.a y6.m c v.b v.x (nN (zbt a b d y6.y c [qE b]) zw))) (zf XLq (J2 y4.s) fun y8=>nN (za8 v v.a y8.m c v.b y8 v.x (zbt a b d y8.y c [])) (znlq39 b fun y9=>zq y9 (zq (decide (y4.s < (↑ln:Int))) (znlq8 y4 ln (nN [(1,.neI 13 0)] (zq ((g (0+y4.s.toNat)).tmod (O 13) == O 5) (znlq27 J2 y4 y8.m y8 y8.y (nN (zck v v.a y8.m (zdi c (znlq7 v v.b y8.m (zej y8 v (qE v.x.n::zgv v.b v y8.m (zej y8 v (zbt a b d y8.y c [qE b]))))))) zw)) (zb2 J2 y4 y8 v v.a y8.m c v.b v.x (nN (zbt a b d y8.y c [qE b]) zw))))) (zb2 J2 y4 y8 v v.a y8.m c v.b v.x (nN (zbt a b d y8.y c [qE b]) zw))) (zf XLq (J2 y4.s) fun y10=>zq (y4.s == O 2) (znlq30 I y10 y4 (nN (za8 v v.a y10.m c v.b y10 v.x (zbt a b d y10.y c [qE b])) zw)) (znlq30 I y10 y4 (nN (za8 v v.a y10.m c v.b y10 v.x (zbt a b d y10.y c [qE b])) zw))))))))) (U True zw)) (zf Bool (fun (x:Bool)=>True) fun y4=>zq y4 (zf XLq (fun (x:XLq)=>I (4,x)) fun y5=>zq (decide (y5.s < O 20)) (nN (za8 v v.a y5.m c v.b y5 v.x (zbt a b d y5.y c [])) (znlq39 b fun y6=>zq y6 (nN [(9,.lt2 0 1 0 1),qE v.n,qE v.a.c,qE y5.m.ct] (znlq38 v v.a y5.m (nN [(9,.lt2 0 1 0 1),qE b] (U True (nN (qE (bmN c.W c.C c.H a)::qE (bitM b)::zck v v.a y5.m [qX (y5.m.acc v.n (O 4) (bmN c.W c.C c.H a) (bits BinOp.or IntKind.u64 (y5.m.val v.n (bmN c.W c.C c.H a)) (bitM b)))]) (zf Mm (fun (m':Mm)=>m'=y5.m.acc v.n (O 4) (bmN c.W c.C c.H a) (bits BinOp.or IntKind.u64 (y5.m.val v.n (bmN c.W c.C c.H a)) (bitM b))) fun y7=>nN ((12,.lt2 0 1 0 1)::(1,.lt2 0 1 0 2)::(6,.lt 0 2)::(13,.lt2 0 1 0 1)::(3,.lt2 0 1 0 2)::zdi c (qE a::znlq37 [])) (U (okYn c.W c.L c.C c.T c.D c.H) (nN [(3,.lt2 0 1 0 2),(39,.lt2 0 1 0 1)] (U (1<=2/\y5.y.cf=y5.y.cf) (znlq41 fun y8=>nN [(8,.lt2 0 1 0 1)] (znlq51 (nN [(6,.lt2 0 1 0 1)] (znlq51 (znlq40 (znlq40 (znlq40 (nN [qE b] (U True (nN (qE (bmN c.W c.C c.H a)::qE (bitM b)::(1,.eqI 0 0)::zgp c v v.b y5.m y5 [qE v.x.n]) (zd7 v.b v y5.m v.x (nN [qX (y5.m.acc v.n (O 4) (bmN c.W c.C c.H a) (bits BinOp.or IntKind.u64 (y5.m.val v.n (bmN c.W c.C c.H a)) (bitM b)))] (zf Mm (fun (m':Mm)=>m'=y5.m.acc v.n (O 4) (bmN c.W c.C c.H a) (bits BinOp.or IntKind.u64 (y5.m.val v.n (bmN c.W c.C c.H a)) (bitM b))) fun y9=>nN [(6,.lt2 0 1 0 1)] (U (O 0<=O 0/\O 0<=O 1/\O 1<=(↑y8:Int)) (nN [(8,.lt2 0 1 0 1)] (U (0 < 1/\0 < 1+1) (nN [(4,.lt2 0 1 0 1)] (znlq47 (znlq47 (znlq47 (nN [(6,.lt2 0 1 0 1)] (U (O 0<=O 0/\O 0<=O 0/\O 0<=(↑y8:Int)) (nN ((12,.lt2 0 1 0 1)::zfz [qE v.x.n]) (zgl v.a v y7 (nN (qE y5.now::zfw v.x v.a [qE v.n,qE v.b.c]) (zdr y9 y7 (nN [qE y5.now,qE v.x.n] (zgt v.b v y9 y7 (nN (zgy v.x v.b [qL v.x.n]) (znlq3 v.x v y7 y5 (nN [(3,.lt2 0 1 0 1),qE v.n,qE v.a.c,qE y7.ct,(1,.le 1 1)] (znlq21 v v.a y7 y5.m (nN ((6,.lt2 0 1 0 1)::zfz [qE v.x.n]) (zgl v.a v y7 (nN (qE y5.now::zfw v.x v.a [qE v.n,qE v.b.c]) (zdr y9 y7 (nN [qE y5.now,qE v.x.n] (zgt v.b v y9 y7 (nN (zgy v.x v.b [qL v.x.n]) (znlq3 v.x v y7 y5 (U True zw)))))))))))))))))))))))))))))))))))))))))))))))))) (znlq14 J1 y5 fun y7=>nN (za8 v v.a y7.m c v.b y7 v.x (zbt a b d y7.y c [])) (znlq39 b fun y8=>zq y8 (zq (decide (y5.s < (↑ln:Int))) (zek y5 ln (zq ((g (0+y5.s.toNat)).tmod (O 3) == O 1) (zek y5 ln (znlq8 y5 ln (nN ((1,.neI 7 0)::znlq15 g y5 (zfz (znlq18 v v.a y7.m c v.b y7 [qE v.x.n]))) (zd7 v.b v y7.m v.x (znlq23 v y7.m fun y9=>U (J2 y5.s (XLq.mk y5.s y9 y7.now y7.y)) (nN (za8 v v.a y9 c v.b y7 v.x (zbt a b d y7.y c [qE b])) zw)))))) (zb2 J2 y5 y7 v v.a y7.m c v.b v.x (nN (zbt a b d y7.y c [qE b]) zw)))) (zb2 J2 y5 y7 v v.a y7.m c v.b v.x (nN (zbt a b d y7.y c [qE b]) zw))) (zf XLq (J2 y5.s) fun y9=>nN (za8 v v.a y9.m c v.b y9 v.x (zbt a b d y9.y c [])) (znlq39 b fun y10=>zq y10 (zq (decide (y5.s < (↑ln:Int))) (znlq8 y5 ln (nN [(1,.neI 13 0)] (zq ((g (0+y5.s.toNat)).tmod (O 13) == O 5) (znlq27 J2 y5 y9.m y9 y9.y (nN (zck v v.a y9.m (zdi c (znlq7 v v.b y9.m (zej y9 v (qE v.x.n::zgv v.b v y9.m (zej y9 v (zbt a b d y9.y c [qE b]))))))) zw)) (zb2 J2 y5 y9 v v.a y9.m c v.b v.x (nN (zbt a b d y9.y c [qE b]) zw))))) (zb2 J2 y5 y9 v v.a y9.m c v.b v.x (nN (zbt a b d y9.y c [qE b]) zw))) (zf XLq (J2 y5.s) fun y11=>zq (y5.s == O 2) (znlq30 I y11 y5 (nN (za8 v v.a y11.m c v.b y11 v.x (zbt a b d y11.y c [qE b])) zw)) (znlq30 I y11 y5 (nN (za8 v v.a y11.m c v.b y11 v.x (zbt a b d y11.y c [qE b])) zw))))))))) (U True zw)) zw))))))))):=by kernel_rfl
end Go.Proofs.YtpcbjiielfadnaaGreat.En
/- Push of levels, step by step: the conditions hold; the contract of Match. -/
namespace Go.Proofs.YtpcbjiielfadnaaGreat.En
open Go Go.RowKit Sx Cn Dc Ck Vc Md
def iLq (x:Nat×XLq):Prop:=rI x.2.s x.2.m/\x.1 < 5/\x.2.y.c<=64/\(x.1 < 1\/2<=x.2.y.cf)
def jLq (b q:Int) (x:XLq):Prop:=rM b q x.m/\x.y.c<=64/\2<=x.y.cf
section
variable {c:Cf} {v:Ev} {q s now k a y:Int} {j n cf:Nat} {m:Mm} {x:XLq} {z:Lp}
theorem Lq_r (hi:iLq (j,x)) (h:decide (x.s < (n:Int))=true):O 0<=x.s/\x.s < n:=q_r hi.1 h
theorem Lq_r2 (hi:iLq (j,x)) (h:decide (x.s < (n:Int))=true):0 < 1/\0+x.s.toNat < n:=q_r2 hi.1 h
theorem Lq_mu (hi:iLq (j,x)) (hs:decide (x.s < O 20)=true):(O 200 - i64.wrap (x.s+O 1)).toNat < (O 200 - x.s).toNat:=q_mu hi.1 hs (by decide)
theorem Lq_ct (hi:iLq (j,x)) (hs:decide (x.s < O 20)=true) (h:m=x.m.acc n k a y):decide (m.ct > i64.wrap (x.m.ct+O 1))=false:=q_ctf hi.1 hs (by decide) h
theorem Lq_cg (hi:iLq (j,x)) (hs:decide (x.s < O 20)=true):decide (x.m.ct > i64.wrap (x.m.ct+O 1))=false:=q_ctg hi.1 hs (by decide)
theorem Lq_v (hi:iLq (j,x)):wW (x.m.val n a):=q_v hi.1
theorem Lq_c (hi:iLq (j,x)):x.y.c<=O 9223372036854775807:=Int.le_trans hi.2.2.1 (by decide)
theorem Lq_f (hi:iLq (j,x)) (hj:1<=j):2<=x.y.cf:=hi.2.2.2.resolve_left (by show ¬ j < 1; omega)
theorem Lq_j (hi:iLq (j,x)) (hs:decide (x.s < O 20)=true) (hj:1<=j) (hm:m=x.m.acc n k a y) (hy:wW y) {now:Int}:jLq 1 x.s ⟨x.s,m,now,x.y⟩:=⟨q_j hi.1 hs (by decide) hm hy,hi.2.2.1,by have:=Lq_f hi hj; exact this⟩
theorem Lq_j1 (h:okMq c v) (hi:iLq (j,x)) (hs:decide (x.s < O 20)=true) (hm:m=x.m.acc n k a y) (hy:wW y) (hf:2<=cf) {now w l t b r e f:Int}:jLq 1 x.s ⟨x.s,m,now,⟨t,b,r,(quN c.W c.L c.C c.D c.H w l).c,e,f,cf⟩⟩:=⟨q_j hi.1 hs (by decide) hm hy,quN_c h,hf⟩
theorem Lq_jz (hi:iLq (j,x)) (hs:decide (x.s < O 20)=true) (hj:1<=j) (hm:m=x.m.acc n k a y) (hy:wW y) {now z:Int}:jLq 1 x.s ⟨x.s,m,now,⟨x.y.t,x.y.b,x.y.r,x.y.c,x.y.x,z,x.y.cf⟩⟩:=⟨q_j hi.1 hs (by decide) hm hy,hi.2.2.1,by have:=Lq_f hi hj; exact this⟩
theorem Lq_2 (h:jLq 1 q x):jLq 2 q ⟨s,x.m,now,x.y⟩:=⟨q_2 h.1,h.2⟩
theorem Lq_2d (h:jLq 1 q x) (hm:okMw (x.m.ct+O 1) m):jLq 2 q ⟨s,m,now,x.y⟩:=⟨q_2d h.1 hm,h.2⟩
theorem Lq_i (h:jLq 2 q x) (hj:j < 5):iLq (j,⟨i64.wrap (q+O 1),x.m,now,x.y⟩):=⟨q_i h.1,hj,h.2.1,.inr h.2.2⟩
theorem Lq_0 (h:okMq c v):iLq (0,⟨O 0,v.m,now,⟨0,0,0,0,0,0,cf⟩⟩):=⟨q_m0 h,by show (0:Nat) < 5; decide,by show (0:Int)<=64; decide,.inl (by show (0:Nat) < 1; decide)⟩
end
theorem vhLq {c:Cf} {v:Ev} {w l d:Int} {cf ln lc:Nat} {g:Nat->Int} (h:okMq c v):zae (vLq c v w l d cf ln lc g iLq (jLq 1) (jLq 2)):=by
 refine zae.pr (vLq_eq ..) ?_
 (with_reducible repeat' first | exact V.okI | refine V.brT ?_ | refine V.brF ?_ | refine V.brI ?_ ?_ | refine V.anyI ?_ | refine nN_h rfl ?_ | refine V.needI ?_ ?_ | intro _)
 all_goals first
  | assumption
  | exact True.intro
  | exact Nat.zero_le _
  | exact q_cm ‹_›
  | exact q_ka ‹_›
  | exact q_kb ‹_›
  | exact Lq_r ‹_› ‹_›
  | exact Lq_r2 ‹_› ‹_›
  | exact Lq_mu ‹_› ‹_›
  | exact Lq_ct ‹_› ‹_› ‹_›
  | exact Lq_cg ‹_› ‹_›
  | exact Lq_c ‹_›
  | exact ⟨rfl,Lq_j ‹_› ‹_› (by decide) ‹_› (by first | exact Lq_v ‹_› | exact zf6 _ | exact bits_ok _ | decide)⟩
  | exact ⟨rfl,Lq_jz ‹_› ‹_› (by decide) ‹_› (Lq_v ‹_›)⟩
  | exact ⟨rfl,Lq_j1 ‹_› ‹_› ‹_› ‹_› (by first | exact Lq_v ‹_› | exact zf6 _) ‹_›⟩
  | exact Lq_2 (And.right ‹_›)
  | exact Lq_2 ‹_›
  | exact Lq_2d (And.right ‹_›) ‹_›
  | exact Lq_i ‹_› (by decide)
  | exact q_di (q_n ‹_›) (And.left (And.right ‹_›))
  | exact q_ex (And.left (And.right ‹_›))
  | exact q_di (q_n ‹_›) (And.left ‹_›)
  | exact q_ex (And.left ‹_›)
  | exact ⟨by decide,by decide,Int.ofNat_le.2 (Nat.le_trans (by decide) (Lq_f ‹_› (by decide)))⟩
  | (refine ⟨by decide,by decide,?_⟩; simp only [Int.ofNat_eq_natCast]; omega)
  | exact ⟨by decide,by decide,Int.natCast_nonneg _⟩
  | exact ⟨by decide,rfl⟩
  | exact And.left ‹_›
  | exact And.left (And.right (by assumption:iLq _))
  | exact h.1
  | exact ⟨h.1,rfl⟩
  | exact ⟨h.1,rfl,by decide,by decide⟩
  | exact q_yk ‹_› (by decide)
  | exact Lq_0 ‹_›
  | (subst_vars; rfl)
  | exact q_nt (by with_reducible assumption)
  | exact q_nf (by with_reducible assumption)
  | decide
  | exact Int.le_refl 0
  | exact ⟨v.m,trivial⟩
  | exact ⟨Nat.zero_le _,Nat.zero_le _⟩
  | trace_state
noncomputable section
def cLq:List SV->Hp->Out (SV×Hp):=cMq 5 20 lqX hLq okMq
theorem cLq_ok:zab P fMt cLq:=cMq_ok fun c v a b d cf ln lc g=>zai cnLq_ok fun h=>vhLq h
end
end Go.Proofs.YtpcbjiielfadnaaGreat.En
