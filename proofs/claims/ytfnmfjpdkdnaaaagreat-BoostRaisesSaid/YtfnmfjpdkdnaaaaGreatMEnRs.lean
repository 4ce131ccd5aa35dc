/- Raise of boost, step by step with the reference's: what is asked. -/
import Derived.Test.YtfnmfjpdkdnaaaaGreatMEnG
import Derived.Test.YtfnmfjpdkdnaaaaGreatMEg
import Derived.Test.YtfnmfjpdkdnaaaaGreatMW
import Derived.Test.YtfnmfjpdkdnaaaaGreatMV
import Derived.Test.YtfnmfjpdkdnaaaaGreatMMd
set_option maxHeartbeats 64000000
set_option linter.unusedVariables false
set_option linter.unusedSimpArgs false
set_option maxRecDepth 100000
open Go.IntKind (i64 u64)
open Int renaming ofNat -> O
open Go.Proofs.YtfnmfjpdkdnaaaaGreat.Sx.V renaming need -> U
namespace Go.Proofs.YtfnmfjpdkdnaaaaGreat.En
open Go Go.RowKit Sx Cn Dc Ck Vc Md
noncomputable section
structure XRs where
 s:Int
 m:Mm
 now:Int
 ln:Int
 q:Int
def rsB (w t l ln q:SC):Blk:=.own 102 8 ([.kb false,.ki .i64 0,.ki .i64 0,w,t,l,ln,q].map some)
def rsX:SC:=.ifc 98 14 (.k 0) (.k 0) 0 8
def rsF (w t l ln q:SC):List Col:=frF 16 ln w t l z6 z6 z6 z6 q zU zU zU
def laRs (w t l:Int) (I:XRs->Prop) (s:St):Option (LA XRs):=match find (tmK 3 s) s.H.h,find (frKi 3 s) s.H.h,find (tmK 0 s) s.H.h,find (envE 0 s) s.H.h,find (renE 1 s) s.H.h with
 | some bm,some (.row tf cf nf _),some b0,some be,some br=>laMt XRs.m XRs.now XRs.s [(tmK 2,false),(tmK 3,true),(frKi 3,true),(tmK 0,true),(envE 0,false),(renE 1,false)]
   (fun x=>[rsB (i6 w) (i6 t) (i6 l) (i6 x.ln) (uw x.q),bm,.row tf cf nf (rsF (i6 w) (i6 t) (i6 l) (i6 x.ln) (uw x.q)),b0,be,br])
   (fun q m w s=>fN (tmK 2 s) fun kx=>match ceI kx 6 s.H.h,ceI kx 7 s.H.h with | some l,some u=>some ⟨q,m,w,l,u⟩ | _,_=>none) I s
 | _,_,_,_,_=>none
def cnRs:Con:=Con.add fRA cRA (Con.add fDi cDi (Con.add fSm cSm (Con.add fTw xTk (Con.add fLt xLt (conU con0)))))
theorem cnRs_ok:zaj P cnRs:=.add cRA_ok (.add cDi_ok (.add cSm_ok (.add xTk_ok (.add xLt_ok (conU_ok zaj.nil)))))
def hRz (c:Cf) (v:Ev) (a b d:Int) (cf ln:Nat) (g:Nat->Int):HL:=hMo c v (rsB (i6 a) (i6 b) (i6 d) (.ki .i64 1) zU) (rsF (i6 a) (i6 b) (i6 d) (.ki .i64 1) zU) cf ln g
def vRs (c:Cf) (v:Ev) (a b d:Int) (cf ln lc:Nat) (g:Nat->Int) (I:XRs->Prop) (J1 J2:Int->XRs->Prop):V:=verF P cnRs 6 8 fMt [] (.loop XRs [.renT 2,.ren (envE 0),.ren (renE 1)] (laRs a b d I) (.cut 16 XRs (laCt (laRs a b d fun _=>True) J1) .nil (.cut 18 XRs (laCt (laRs a b d fun _=>True) J2) .nil (.cut 21 XRs (laCt (laRs a b d fun _=>True) J2) .nil .nil))) .nil) (argMq rsX 60 ln lc) ⟨hRz c v a b d cf ln g,18,fun _=>True⟩ (yesF 18)
end
end Go.Proofs.YtfnmfjpdkdnaaaaGreat.En
/- Raise: the conditions, printed by program. -/
namespace Go.Proofs.YtfnmfjpdkdnaaaaGreat.En
open Go Go.RowKit Sx Cn Dc Ck Vc Md
abbrev zfc (a0:Rk) (a1:Rm) (l:LP):LP:=qE a0.n::qE a1.r::(1,.eq 0 0)::qE a1.e::l
abbrev znrs4 (a0:Ev) (a1:Rm) (a2:Mm) (k:V):V:=nN [(1,.le 1 1)] (U (a0.n<=a0.n/\a0.n<=a1.c) (nN [(1,.pf (∀ (i e:Nat),i=0/\e < a0.n->a2.g e=a2.g e) (by intros; rfl))] k))
abbrev znrs12 (a0:Ev) (a1:Rm) (a2:Mm) (l:LP):LP:=qE a0.n::qE a1.c::qE a2.lk::qE a2.lc::qE a2.lo::qE a2.ln::qE a2.ct::l
abbrev znrs13 (a0:Ev) (a1:Rm) (a2:Mm) (k:V):V:=nN (znrs12 a0 a1 a2 []) (znrs4 a0 a1 a2 k)
abbrev znrs49 (a0:Rk) (a1:Rm) (a2:Ev) (a3:Mm) (a4:XRs) (k:V):V:=nN (zfc a0 a1 []) (znrs13 a2 a1 a3 (nN [qE a4.now] k))
abbrev znrs8 (a0:Rk) (a1:Rm) (l:LP):LP:=(1,.le 1 1)::(1,.pf (∀ (i:Nat),i < 1->a0.n<=a0.n) (by intros; exact Nat.le_refl _))::(1,.pf (∀ (i e:Nat),i < 1/\e < a0.n->a0.p e=a0.p e) (by intros; rfl))::(1,.pf (∀ (i e:Nat),i < 1/\e < a0.n->a0.pa e=a0.pa e) (by intros; rfl))::(1,.pf (∀ (i e:Nat),i < 1/\e < a0.n->a0.pc e=a0.pc e) (by intros; rfl))::(1,.pf (∀ (i e:Nat),i < 1/\e < a0.n->a0.lf e=a0.lf e) (by intros; rfl))::(1,.pf (∀ (i e:Nat),i < 1/\e < a0.n->a0.wt e=a0.wt e) (by intros; rfl))::(1,.pf (∀ (i e:Nat),i < 1/\e < a0.n->e=e) (by intros; rfl))::(1,.pf (∀ (i e:Nat),i < 1/\e < a0.n->a0.kl e=a0.kl e) (by intros; rfl))::(1,.pf (∀ (i e:Nat),i < 1/\e < a0.n->a1.k e=a1.k e) (by intros; rfl))::(1,.pf (∀ (i e:Nat),i < 1/\e < a0.n->a0.st e=a0.st e) (by intros; rfl))::(1,.le 1 1)::l
abbrev znrs9 (a0:Rk) (a1:Rm) (k:V):V:=nN (znrs8 a0 a1 []) (U (0<=0/\0<=a1.e) (nN [(5,.pf (∀ (i e:Nat),i=0/\e < 0->O 0=O 0) (by intros; rfl))] k))
abbrev znrs27 (a0:Ev) (a1:Rm) (a2:Mm) (a3:XRs) (l:LP):LP:=znrs12 a0 a1 a2 (qE a3.now::l)
abbrev znrs0 (a0:Rk) (l:LP):LP:=(1,.pf (∀ (i:Nat),i < a0.n->a0.kl i<=a0.kl i) (by intros; exact Nat.le_refl _))::(1,.pf (∀ (i e:Nat),i < a0.n/\e < a0.kl i->a0.kd i e=a0.kd i e) (by intros; rfl))::l
abbrev znrs25 (a0:Rk) (l:LP):LP:=qL a0.n::znrs0 a0 l
abbrev znrs33 (a0:Rk) (a1:Rm) (a2:Ev) (a3:Mm) (a4:XRs) (k:V):V:=znrs9 a0 a1 (nN (znrs25 a0 (qL a0.n::znrs0 a0 [])) (U (okCm (Cm.mk a2.n a3 a4.now a0 0 (Evs.mk (fun (i:Nat)=>O 0) (fun (i:Nat)=>O 0) (fun (i:Nat)=>O 0) (fun (i:Nat)=>O 0) fun (i:Nat)=>O 0))) k))
abbrev znrs50 (a0:Rk) (a1:Rm) (a2:Ev) (a3:Mm) (a4:XRs) (a5:Rm) (k:V):V:=znrs49 a0 a1 a2 a3 a4 (znrs9 a0 a1 (nN (znrs27 a2 a5 a3 a4 (zfc a0 a5 [])) (znrs4 a2 a5 a3 (znrs33 a0 a5 a2 a3 a4 k))))
abbrev znrs10 (a0:Mm) (k:V):V:=U (decide (a0.ct > i64.wrap (a0.ct+O 1))=false) (nN [(6,.lt2 0 1 0 1)] k)
abbrev znrs19 (a0:Nat) (k:V):V:=nN [(6,.lt2 0 1 0 1)] (U (O 0<=O 0/\O 0<=O 0/\O 0<=(↑a0:Int)) (nN [(12,.lt2 0 1 0 1)] k))
abbrev znrss0 (cf:Nat) (v:Ev) (y0:XRs):V:=znrs19 cf (znrs50 v.x v.a v y0.m y0 v.b (nN [qE v.n,qE v.a.c,qE y0.m.ct] (znrs4 v v.a y0.m (znrs10 y0.m (znrs50 v.x v.a v y0.m y0 v.b (U True V.ok))))))
abbrev znrs26 (a0:Rk) (a1:Rm) (l:LP):LP:=zfc a0 a1 (qE a1.c::l)
abbrev znrs28 (a0:Ev) (a1:Mm) (l:LP):LP:=qL a0.n::qF a0.n a1.g::l
abbrev znrs44 (a0:Ev) (a1:Rk) (a2:Rm) (a3:Mm) (l:LP):LP:=qE a0.dr::znrs26 a1 a2 (znrs28 a0 a3 l)
abbrev znrs22 (a0:Cf) (l:LP):LP:=qE a0.W::qE a0.L::qE a0.C::qE a0.T::qE a0.D::qE a0.H::l
abbrev znrs23 (a0:Cf) (l:LP):LP:=znrs22 a0 (qE a0.B::qE a0.A::qE a0.P::l)
abbrev zfl (a0:Cf) (l:LP):LP:=znrs23 a0 (qE a0.nP::qE a0.rc::qE a0.nU::qE a0.cu::l)
abbrev znrs35 (a0:Ev) (a1:Rm) (a2:Mm) (l:LP):LP:=znrs12 a0 a1 a2 (qE a1.c::znrs28 a0 a2 l)
abbrev znrs41 (a0:Ev) (a1:Rm) (a2:Mm) (a3:Cf) (l:LP):LP:=znrs35 a0 a1 a2 (zfl a3 l)
abbrev zej (a0:Ev) (a1:Rm) (a2:Mm) (a3:Cf) (a4:Rm) (a5:XRs) (a6:Rk) (l:LP):LP:=znrs41 a0 a1 a2 a3 (znrs27 a0 a4 a2 a5 (znrs44 a0 a6 a4 a2 l))
abbrev znrs42 (a0:Nat) (l:LP):LP:=qE a0::(1,.le 1 1)::l
abbrev zde (a0:Nat) (l:LP):LP:=qE a0::znrs42 a0 l
abbrev znrs37 (a0:XRs) (k:V):V:=U ((O 200 - i64.wrap (a0.s+O 1)).toNat < (O 200 - a0.s).toNat) (nN [qE (i64.wrap (a0.s+O 1))] k)
abbrev znrs1 (l:LP):LP:=qF 0 (fun (e:Nat)=>O 0)::qF 0 (fun (e:Nat)=>O 0)::l
abbrev znrs30 (a0:Rm) (l:LP):LP:=qE a0.e::(1,.le 0 0)::znrs1 (znrs1 (qF 0 (fun (e:Nat)=>O 0)::l))
abbrev zdc (a0:Cf) (a1:Rk) (a2 a3:Rm) (l:LP):LP:=znrs23 a0 (znrs22 a0 (qE (lS a0)::qE (lE a0)::qE (lB a0)::qE (lQ a0)::qE (lT a0)::zfc a1 a2 (znrs30 a2 (znrs30 a3 l))))
abbrev znrss1 (I:XRs->Prop) (y6 y0:XRs) (v:Ev) (c:Cf) (a b d:Int) (cf:Nat):V:=U (I { y6 with s:=i64.wrap (y0.s+O 1) }) (znrs37 y0 (nN (zej v v.a y6.m c v.b y6 v.x (qE y6.now::qE v.dr::qE a::qE b::qE d::qE y6.ln::qE y6.q::zde cf (qE y6.ln::qE a::qE b::qE d::qE y6.q::zdc c v.x v.a v.b []))) V.ok))
abbrev znrs15 (l:LP):LP:=(7,.lt2 0 1 0 1)::(3,.lt 0 1)::l
abbrev znrs32 (l:LP):LP:=znrs15 ((3,.lt2 0 1 0 1)::l)
abbrev znrs47 (l:LP):LP:=znrs15 (znrs32 l)
abbrev znrs48 (a0:Cf) (k:V):V:=nN [(1,.eqI 1 1)] (U (okYn a0.W a0.L a0.C a0.T a0.D a0.H/\lT a0=lTn a0.W a0.L a0.C a0.D a0.H/\O 0<=O 1/\O 1<=O 4) k)
abbrev znrs2 (l:LP):LP:=(1,.le 0 0)::(1,.pf (∀ (i:Nat),i < 0->0<=0) (by intros; exact Nat.le_refl _))::l
abbrev znrs51 (l:LP):LP:=znrs2 (znrs2 l)
abbrev znrs3 (a0:Rk) (a1:Ev) (a2:Mm) (a3:XRs) (a4 a5 a6:Int) (k:V):V:=nN (znrs0 a0 []) (U (okCm (Cm.mk a1.n a2 a3.now a0 (0+1) (Evs.mk (fun (i:Nat)=>if 0=0/\i=0 then O 11 else O 0) (fun (i:Nat)=>if 0=0/\i=0 then a4 else O 0) (fun (i:Nat)=>if 0=0/\i=0 then a5 else O 0) (fun (i:Nat)=>if 0=0/\i=0 then O 0 else O 0) fun (i:Nat)=>if 0=0/\i=0 then a6 else O 0))) k)
abbrev znrs5 (a0 a1:Int) (k:V):V:=U (∀ (i e:Nat),i=0/\e < 0+1->(if i=0/\e=0 then a0 else O 0)=if 0=0/\e=0 then a0 else O 0) (U (∀ (i e:Nat),i=0/\e < 0+1->(if i=0/\e=0 then O 0 else O 0)=if 0=0/\e=0 then O 0 else O 0) (U (∀ (i e:Nat),i=0/\e < 0+1->(if i=0/\e=0 then a1 else O 0)=if 0=0/\e=0 then a1 else O 0) k))
abbrev znrs6 (a0:Mm) (a1:Ev) (a2:Cf) (a3:Int) (a4:XRs) (a5:Int) (k:Mm->V):V:=nN [qX (a0.acc a1.n (O 3) (tkN a2.W a2.L a2.C a2.T a2.D a2.H a3 (O 1)) (casV (a0.hit a1.n (tkN a2.W a2.L a2.C a2.T a2.D a2.H a3 (O 1)) a4.q) (a0.val a1.n (tkN a2.W a2.L a2.C a2.T a2.D a2.H a3 (O 1))) (u64.wrap a5)))] (V.any Mm (fun (m':Mm)=>m'=a0.acc a1.n (O 3) (tkN a2.W a2.L a2.C a2.T a2.D a2.H a3 (O 1)) (casV (a0.hit a1.n (tkN a2.W a2.L a2.C a2.T a2.D a2.H a3 (O 1)) a4.q) (a0.val a1.n (tkN a2.W a2.L a2.C a2.T a2.D a2.H a3 (O 1))) (u64.wrap a5))) fun v0=>k v0)
abbrev znrs7 (a0:Ev) (a1:Rm) (a2 a3:Mm) (k:V):V:=U (a0.n<=a0.n/\a0.n<=a1.c) (U (∀ (i e:Nat),i=0/\e < a0.n->a2.g e=a3.g e) k)
abbrev znrs14 (a0:Ev) (a1:Rm) (a2 a3:Mm) (k:V):V:=znrs4 a0 a1 a2 (U (decide (a2.ct > i64.wrap (a3.ct+O 1))=false) k)
abbrev znrs16 (a0:Mm) (a1:Ev) (a2:Cf) (a3:Int) (k:Mm->V):V:=nN [qX (a0.acc a1.n (O 1) (tkN a2.W a2.L a2.C a2.T a2.D a2.H a3 (O 1)) (a0.val a1.n (tkN a2.W a2.L a2.C a2.T a2.D a2.H a3 (O 1))))] (V.any Mm (fun (m':Mm)=>m'=a0.acc a1.n (O 1) (tkN a2.W a2.L a2.C a2.T a2.D a2.H a3 (O 1)) (a0.val a1.n (tkN a2.W a2.L a2.C a2.T a2.D a2.H a3 (O 1)))) fun v0=>k v0)
abbrev znrs17 (a0:Int) (a1:Cf) (k:V):V:=U (decide (a0 >= O 0)=true) (U (decide (a0 < a1.T)=true) k)
abbrev znrs18 (a0:Cf) (k:V):V:=nN (znrs2 []) (U (okYn a0.W a0.L a0.C a0.T a0.D a0.H/\O 0<=O 1/\O 1<=O 4) k)
abbrev znrs20 (a0:Int) (k:V):V:=nN [(3,.lt2 0 1 0 1)] (U (decide (a0 < O 0)=false) k)
abbrev znrs21 (a0:Rk) (k:V):V:=nN [(1,.le 0 1)] (U (∀ (i:Nat),i < 0->0<=a0.n) k)
abbrev znrs29 (a0:Nat) (a1:Int) (k:V):V:=U (0+1<=0+1/\0+1<=a0) (U (∀ (i e:Nat),i=0/\e < 0+1->(if i=0/\e=0 then O 11 else O 0)=if 0=0/\e=0 then O 11 else O 0) (U (∀ (i e:Nat),i=0/\e < 0+1->(if i=0/\e=0 then a1 else O 0)=if 0=0/\e=0 then a1 else O 0) k))
abbrev zeh (a0 a1:Mm) (k:V):V:=U (a0.lk=a1.lk) (U (a0.lc=a1.lc) (U (a0.lo=a1.lo) (U (a0.ln=a1.ln) (U (a0.ct=a1.ct) k))))
abbrev znrs34 (a0:Rm) (k:V):V:=nN [(1,.le 0 1)] (U (0<=0/\0<=a0.e) k)
abbrev znrs36 (k:Nat->V):V:=U (0+1<=9223372036854775807/\(0+1) * 40<=140737488355328) (V.any Nat (fun (x:Nat)=>0+1<=x) fun v0=>k v0)
abbrev znrs38 (k:V):V:=U True (U (false=true) k)
abbrev znrs39 (a0:XRs) (a1:Nat) (k:V):V:=U (O 0<=a0.s/\a0.s < (↑a1:Int)) (U (0 < 1/\0+a0.s.toNat < a1) (U (0 < 1/\0+a0.s.toNat < a1) k))
abbrev znrs40 (a0:Int) (a1:Cf) (k:V):V:=nN [(7,.lt2 0 1 0 1)] (U (decide (a0 >= a1.L)=false) k)
theorem vRs_eq (c:Cf) (v:Ev) (a b d:Int) (cf ln lc:Nat) (g:Nat->Int) (I:XRs->Prop) (J1 J2:Int->XRs->Prop):V.pr (.b (.b (.b (.b (.b (.b (.t (.t (.b (.f .z) (.f (.t (.f .z)))))) (.b (.b (.t (.t (.b (.f .z) (.f (.f (.t (.t (.f .z)))))))) (.t (.t (.b .z (.f (.f (.t (.f (.f .z))))))))) (.b (.t (.t (.b (.f .z) (.f (.f (.f (.t (.f .z)))))))) (.t (.t (.b .z (.f (.f (.f (.f (.f .z))))))))))) (.t (.t (.b (.f .z) (.t (.f .z)))))) (.t (.f (.f .z)))) (.f (.f .z))) .z) .z) (vRs c v a b d cf ln lc g I J1 J2)=
 U (I (XRs.mk (O 0) v.m v.now (O 1) (O 0))) (nN ((1,.eqI 0 0)::znrs41 v v.a v.m c (znrs12 v v.b v.m (qE v.now::znrs44 v v.x v.b v.m (qE v.now::qE v.dr::qE a::qE b::qE d::(1,.eqI 1 1)::(1,.eqI 0 0)::zde cf ((1,.eqI 1 1)::qE a::qE b::qE d::(1,.eqI 0 0)::zdc c v.x v.a v.b []))))) (V.any XRs I fun y0=>V.br (decide (y0.s < O 60)) (nN (zej v v.a y0.m c v.b y0 v.x (qE y0.now::qE v.dr::qE a::qE b::qE d::qE y0.ln::qE y0.q::zde cf (qE y0.ln::qE a::qE b::qE d::qE y0.q::zdc c v.x v.a v.b []))) (V.any Bool (fun (x:Bool)=>True) fun y1=>V.br y1 (nN [(6,.lt2 0 1 0 1),qE v.n,qE v.a.c,qE y0.m.ct] (znrs4 v v.a y0.m (nN [(6,.lt2 0 1 0 1)] (V.br (decide (b >= O 0)) (V.br (decide (b < c.T)) (V.br (decide (d >= O 0)) (V.br (!decide (d < c.L)) (nN (znrs47 []) (znrs17 b c (V.br (!decide (b < (↑v.x.n:Int))) (znrss0 cf v y0) (znrs20 d (nN [(7,.lt2 0 1 0 1)] (U (decide (d >= c.L)=true) (znrss0 cf v y0))))))) (V.br (y0.ln == O 1) (nN ((19,.lt2 0 1 0 1)::znrs22 c [qE (lS c),qE (lE c),qE (lB c),qE (lQ c),qE (lT c),qE b]) (znrs48 c (nN (qE (tkN c.W c.L c.C c.T c.D c.H b (O 1))::znrs35 v v.a y0.m []) (znrs16 y0.m v c b fun y2=>nN [(8,.lt2 0 1 0 1)] (V.br (decide (i64.wrap (y0.m.val v.n (tkN c.W c.L c.C c.T c.D c.H b (O 1))) >= d)) (nN (znrs47 []) (znrs17 b c (V.br (!decide (b < (↑v.x.n:Int))) (znrs19 cf (znrs49 v.x v.a v y2 y0 (znrs9 v.x v.a (nN [qE v.n,qE v.b.c] (zeh y0.m y2 (nN (qE y0.now::zfc v.x v.b [(1,.le 1 1)]) (znrs7 v v.b y0.m y2 (znrs33 v.x v.b v y2 y0 (nN [qE v.n,qE v.a.c,qE y2.ct] (znrs14 v v.a y2 y0.m (nN [(6,.lt2 0 1 0 1)] (znrs38 V.ok)))))))))))) (znrs20 d (znrs40 d c (nN [(6,.lt 0 1)] (U ((y0.ln == O 1)=true) (nN ((16,.lt2 0 1 0 1)::zfl c (qE b::(1,.eqI 1 1)::znrs2 [])) (znrs18 c (nN (qE (tkN c.W c.L c.C c.T c.D c.H b (O 1))::(2,.eqI 0 0)::zfl c (znrs27 v v.b y0.m y0 (znrs44 v v.x v.b y0.m (znrs51 [])))) (znrs21 v.x (znrs34 v.b (znrs16 y0.m v c b fun y3=>nN [(2,.lt2 0 1 0 1),(1,.lt 0 1),(6,.lt2 0 1 0 1)] (U (decide (i64.wrap (y0.m.val v.n (tkN c.W c.L c.C c.T c.D c.H b (O 1))) >= d)=true) (znrs19 cf (znrs49 v.x v.a v y2 y0 (znrs9 v.x v.a (nN [qE v.n,qE v.b.c] (zeh y3 y2 (nN (qE y0.now::zfc v.x v.b [(1,.le 1 1)]) (znrs7 v v.b y3 y2 (znrs33 v.x v.b v y2 y0 (nN [qE v.n,qE v.a.c,qE y2.ct] (znrs14 v v.a y2 y0.m (nN [(6,.lt2 0 1 0 1)] (znrs49 v.x v.a v y2 y0 (znrs9 v.x v.a (nN [qE v.n,qE v.b.c] (zeh y3 y2 (nN (qE y0.now::zfc v.x v.b [(1,.le 1 1)]) (znrs7 v v.b y3 y2 (znrs33 v.x v.b v y2 y0 (U True V.ok))))))))))))))))))))))))))))))))) (nN (znrs47 []) (znrs17 b c (V.br (!decide (b < (↑v.x.n:Int))) (znrs19 cf (znrs38 V.ok)) (znrs20 d (znrs40 d c (nN [(6,.lt 0 1)] (U ((y0.ln == O 1)=true) (nN ((16,.lt2 0 1 0 1)::zfl c (qE b::(1,.eqI 1 1)::znrs2 [])) (znrs18 c (nN (qE (tkN c.W c.L c.C c.T c.D c.H b (O 1))::(2,.eqI 0 0)::zfl c (znrs27 v v.b y0.m y0 (znrs44 v v.x v.b y0.m (znrs51 [])))) (znrs21 v.x (znrs34 v.b (znrs16 y0.m v c b fun y3=>nN [(2,.lt2 0 1 0 1),(1,.lt 0 1),(6,.lt2 0 1 0 1)] (U (decide (i64.wrap (y0.m.val v.n (tkN c.W c.L c.C c.T c.D c.H b (O 1))) >= d)=false) (nN [(3,.lt 0 1)] (znrs49 v.x v.a v y2 y0 (znrs9 v.x v.a (nN [qE v.n,qE v.b.c] (zeh y3 y2 (nN (qE y0.now::zfc v.x v.b [(1,.le 1 1)]) (znrs7 v v.b y3 y2 (znrs33 v.x v.b v y2 y0 (nN [qE v.n,qE v.a.c,qE y2.ct] (znrs14 v v.a y2 y0.m (U (J1 y0.s (XRs.mk y0.s y2 y0.now (O 2) (y0.m.val v.n (tkN c.W c.L c.C c.T c.D c.H b (O 1))))) (nN (znrs41 v v.a y2 c [qE v.n,qE v.b.c]) (zeh y3 y2 (nN (qE y0.now::qE v.dr::znrs26 v.x v.b [qL v.n]) (U (∀ (e:Nat),e < v.n->y3.g e=y2.g e) (nN (qE y0.now::qE v.dr::qE a::qE b::qE d::(1,.eqI 2 2)::qE (y0.m.val v.n (tkN c.W c.L c.C c.T c.D c.H b (O 1)))::zde cf ((1,.eqI 2 2)::qE a::qE b::qE d::qE (y0.m.val v.n (tkN c.W c.L c.C c.T c.D c.H b (O 1)))::zdc c v.x v.a v.b [])) V.ok))))))))))))))))))))))))))))))))))) (nN ((19,.lt2 0 1 0 1)::znrs22 c [qE (lS c),qE (lE c),qE (lB c),qE (lQ c),qE (lT c),qE b]) (znrs48 c (nN ((6,.lt2 0 1 0 1)::qE (tkN c.W c.L c.C c.T c.D c.H b (O 1))::qE y0.q::qE (u64.wrap d)::znrs35 v v.a y0.m []) (znrs6 y0.m v c b y0 d fun y2=>V.br (y0.m.hit v.n (tkN c.W c.L c.C c.T c.D c.H b (O 1)) y0.q) (nN [(22,.lt2 0 1 0 1)] (U (0<=0/\v.a.e=v.a.e) (znrs36 fun y3=>nN ((9,.lt2 0 1 0 1)::(3,.lt 0 1)::znrs32 []) (znrs17 b c (V.br (!decide (b < (↑v.x.n:Int))) (znrs19 cf (nN [qE v.x.n,qE v.a.r,qE (0+1),qE y3] (znrs13 v v.a y2 (nN (qE y0.now::znrs8 v.x v.a []) (znrs29 y3 a (znrs5 b d (nN [qE v.n,qE v.b.c] (zeh y0.m y2 (nN [qE y0.now,qE v.x.n,qE v.b.r] (U (0=0+1) (nN [qE v.b.e,(1,.le 1 1)] (znrs7 v v.b y0.m y2 (nN (znrs8 v.x v.b []) (U (0+1<=0/\0+1<=v.b.e) (U (∀ (i e:Nat),i=0/\e < 0+1->O 0=if 0=0/\e=0 then O 11 else O 0) (U (∀ (i e:Nat),i=0/\e < 0+1->O 0=if 0=0/\e=0 then a else O 0) (U (∀ (i e:Nat),i=0/\e < 0+1->O 0=if 0=0/\e=0 then b else O 0) (U (∀ (i e:Nat),i=0/\e < 0+1->O 0=if 0=0/\e=0 then O 0 else O 0) (U (∀ (i e:Nat),i=0/\e < 0+1->O 0=if 0=0/\e=0 then d else O 0) (nN (znrs25 v.x [qL v.x.n]) (znrs3 v.x v y2 y0 a b d (nN [qE v.n,qE v.a.c,qE y2.ct] (znrs14 v v.a y2 y0.m (nN [(6,.lt2 0 1 0 1)] (znrs38 V.ok))))))))))))))))))))))))) (znrs20 d (znrs40 d c (nN [(6,.lt 0 1)] (U ((y0.ln == O 1)=false) (nN ((16,.lt2 0 1 0 1)::zfl c (qE b::(1,.eqI 1 1)::znrs2 [])) (znrs18 c (nN ((6,.lt2 0 1 0 1)::qE (tkN c.W c.L c.C c.T c.D c.H b (O 1))::qE y0.q::qE (u64.wrap d)::zfl c (znrs27 v v.b y0.m y0 (znrs44 v v.x v.b y0.m (znrs51 [])))) (znrs21 v.x (znrs34 v.b (znrs6 y0.m v c b y0 d fun y4=>U (y0.m.hit v.n (tkN c.W c.L c.C c.T c.D c.H b (O 1)) y0.q=true) (nN [(9,.lt2 0 1 0 1),(5,.lt 0 1)] (U (0<=0/\v.b.e=v.b.e) (znrs36 fun y5=>znrs19 cf (nN [qE v.x.n,qE v.a.r,qE (0+1),qE y3] (znrs13 v v.a y2 (nN (qE y0.now::znrs8 v.x v.a []) (znrs29 y3 a (znrs5 b d (nN [qE v.n,qE v.b.c] (zeh y4 y2 (nN (qE y0.now::qE v.x.n::qE v.b.r::qE (0+1)::znrs42 y5 []) (znrs7 v v.b y4 y2 (nN (znrs8 v.x v.b []) (znrs29 y5 a (znrs5 b d (nN (znrs25 v.x [qL v.x.n]) (znrs3 v.x v y2 y0 a b d (nN [qE v.n,qE v.a.c,qE y2.ct] (znrs14 v v.a y2 y0.m (nN [(6,.lt2 0 1 0 1),qE v.x.n,qE v.a.r,qE (0+1),qE y3] (znrs13 v v.a y2 (nN (qE y0.now::znrs8 v.x v.a []) (znrs29 y3 a (znrs5 b d (nN [qE v.n,qE v.b.c] (zeh y4 y2 (nN (qE y0.now::qE v.x.n::qE v.b.r::qE (0+1)::znrs42 y5 []) (znrs7 v v.b y4 y2 (nN (znrs8 v.x v.b []) (znrs29 y5 a (znrs5 b d (nN (znrs25 v.x [qL v.x.n]) (znrs3 v.x v y2 y0 a b d (U True V.ok))))))))))))))))))))))))))))))))))))))))))))))))) (nN (znrs47 []) (znrs17 b c (V.br (!decide (b < (↑v.x.n:Int))) (znrs19 cf (znrs38 V.ok)) (znrs20 d (znrs40 d c (nN [(6,.lt 0 1)] (U ((y0.ln == O 1)=false) (nN ((16,.lt2 0 1 0 1)::zfl c (qE b::(1,.eqI 1 1)::znrs2 [])) (znrs18 c (nN ((6,.lt2 0 1 0 1)::qE (tkN c.W c.L c.C c.T c.D c.H b (O 1))::qE y0.q::qE (u64.wrap d)::zfl c (znrs27 v v.b y0.m y0 (znrs44 v v.x v.b y0.m (znrs51 [])))) (znrs21 v.x (znrs34 v.b (znrs6 y0.m v c b y0 d fun y3=>U (y0.m.hit v.n (tkN c.W c.L c.C c.T c.D c.H b (O 1)) y0.q=false) (nN [(3,.lt 0 1)] (znrs49 v.x v.a v y2 y0 (znrs9 v.x v.a (nN [qE v.n,qE v.b.c] (zeh y3 y2 (nN (qE y0.now::zfc v.x v.b [(1,.le 1 1)]) (znrs7 v v.b y3 y2 (znrs33 v.x v.b v y2 y0 (nN [qE v.n,qE v.a.c,qE y2.ct] (znrs14 v v.a y2 y0.m (U (J1 y0.s (XRs.mk y0.s y2 y0.now (O 1) y0.q)) (nN (znrs41 v v.a y2 c [qE v.n,qE v.b.c]) (zeh y3 y2 (nN (qE y0.now::qE v.dr::znrs26 v.x v.b [qL v.n]) (U (∀ (e:Nat),e < v.n->y3.g e=y2.g e) (nN (qE y0.now::qE v.dr::qE a::qE b::qE d::(1,.eqI 1 1)::qE y0.q::zde cf ((1,.eqI 1 1)::qE a::qE b::qE d::qE y0.q::zdc c v.x v.a v.b [])) V.ok))))))))))))))))))))))))))))))))))) (nN (znrs47 []) (znrs17 b c (V.br (!decide (b < (↑v.x.n:Int))) (znrss0 cf v y0) (nN [(3,.lt2 0 1 0 1)] (U (decide (d < O 0)=true) (znrss0 cf v y0))))))) (nN (znrs47 []) (U (decide (b >= O 0)=true) (U (decide (b < c.T)=false) (znrss0 cf v y0))))) (nN (znrs47 []) (U (decide (b >= O 0)=false) (znrss0 cf v y0))))))) (V.any XRs (J1 y0.s) fun y2=>nN (zej v v.a y2.m c v.b y2 v.x (qE y2.now::qE v.dr::qE a::qE b::qE d::qE y2.ln::qE y2.q::zde cf (qE y2.ln::qE a::qE b::qE d::qE y2.q::zdc c v.x v.a v.b []))) (V.any Bool (fun (x:Bool)=>True) fun y3=>V.br y3 (V.br (decide (y0.s < (↑ln:Int))) (znrs39 y0 ln (nN [(1,.neI 3 0)] (V.br ((g (0+y0.s.toNat)).tmod (O 3) == O 1) (znrs39 y0 ln (nN [(1,.neI 3 0)] (znrs39 y0 ln (nN ((1,.neI 7 0)::qE (i64.wrap ((g (0+y0.s.toNat)).tdiv (O 3)))::qE (i64.wrap ((g (0+y0.s.toNat)).tdiv (O 7)))::zej v v.a y2.m c v.b y2 v.x (znrs51 [])) (znrs21 v.x (znrs34 v.b (U (v.n<=1000000/\okMw (O 1000000000) y2.m) (nA (okMw (y2.m.ct+O 1)) fun y4=>U (J2 y0.s (XRs.mk y0.s y4 y2.now y2.ln y2.q)) (nN (zej v v.a y4 c v.b y2 v.x (qE y2.now::qE v.dr::qE a::qE b::qE d::qE y2.ln::qE y2.q::zde cf (qE y2.ln::qE a::qE b::qE d::qE y2.q::zdc c v.x v.a v.b []))) V.ok))))))))) (U (J2 y0.s { y2 with s:=y0.s }) (nN (zej v v.a y2.m c v.b y2 v.x (qE y2.now::qE v.dr::qE a::qE b::qE d::qE y2.ln::qE y2.q::zde cf (qE y2.ln::qE a::qE b::qE d::qE y2.q::zdc c v.x v.a v.b []))) V.ok))))) (U (J2 y0.s { y2 with s:=y0.s }) (nN (zej v v.a y2.m c v.b y2 v.x (qE y2.now::qE v.dr::qE a::qE b::qE d::qE y2.ln::qE y2.q::zde cf (qE y2.ln::qE a::qE b::qE d::qE y2.q::zdc c v.x v.a v.b []))) V.ok))) (V.any XRs (J2 y0.s) fun y4=>nN (zej v v.a y4.m c v.b y4 v.x (qE y4.now::qE v.dr::qE a::qE b::qE d::qE y4.ln::qE y4.q::zde cf (qE y4.ln::qE a::qE b::qE d::qE y4.q::zdc c v.x v.a v.b []))) (V.any Bool (fun (x:Bool)=>True) fun y5=>V.br y5 (V.br (decide (y0.s < (↑ln:Int))) (znrs39 y0 ln (nN [(1,.neI 13 0)] (V.br ((g (0+y0.s.toNat)).tmod (O 13) == O 5) (U (J2 y0.s (XRs.mk y0.s y4.m (i64.wrap (y4.now+O 1)) y4.ln y4.q)) (nN (znrs41 v v.a y4.m c (znrs12 v v.b y4.m (qE (i64.wrap (y4.now+O 1))::znrs44 v v.x v.b y4.m (qE (i64.wrap (y4.now+O 1))::qE v.dr::qE a::qE b::qE d::qE y4.ln::qE y4.q::zde cf (qE y4.ln::qE a::qE b::qE d::qE y4.q::zdc c v.x v.a v.b []))))) V.ok)) (U (J2 y0.s { y4 with s:=y0.s }) (nN (zej v v.a y4.m c v.b y4 v.x (qE y4.now::qE v.dr::qE a::qE b::qE d::qE y4.ln::qE y4.q::zde cf (qE y4.ln::qE a::qE b::qE d::qE y4.q::zdc c v.x v.a v.b []))) V.ok))))) (U (J2 y0.s { y4 with s:=y0.s }) (nN (zej v v.a y4.m c v.b y4 v.x (qE y4.now::qE v.dr::qE a::qE b::qE d::qE y4.ln::qE y4.q::zde cf (qE y4.ln::qE a::qE b::qE d::qE y4.q::zdc c v.x v.a v.b []))) V.ok))) (V.any XRs (J2 y0.s) fun y6=>V.br (y0.s == O 2) (znrss1 I y6 y0 v c a b d cf) (znrss1 I y6 y0 v c a b d cf)))))))) (U True V.ok))):=by kernel_rfl
end Go.Proofs.YtfnmfjpdkdnaaaaGreat.En
/- Raise of boost, step by step: the conditions hold; the contract of Match. -/
namespace Go.Proofs.YtfnmfjpdkdnaaaaGreat.En
open Go Go.RowKit Sx Cn Dc Ck Vc Md
def iRs (x:XRs):Prop:=rI x.s x.m
def jRs (b q:Int) (x:XRs):Prop:=rM b q x.m
theorem rs_tn {c:Cf} {v:Ev} {t:Int} (h:okMq c v) (h1:decide (t < c.T)=true) (h2:(!decide (t < (v.x.n:Int)))=true):False:=q_tn h (by rw [h1]; rfl) h2
section
variable {a b:Int}
theorem rs_1 (h:decide (a >= b)=true):decide (a < b)=false:=decide_eq_false (by have:a >= b:=of_decide_eq_true h; omega)
theorem rs_2 (h:decide (a >= b)=false):decide (a < b)=true:=decide_eq_true (by have:¬ a >= b:=of_decide_eq_false h; omega)
theorem rs_3 (h:(!decide (a < b))=false):decide (a >= b)=false:=decide_eq_false (by have:a < b:=of_decide_eq_true (q_nf h); omega)
theorem rs_4 (h:(!decide (a < b))=true):decide (a >= b)=true:=decide_eq_true (by have:¬ a < b:=of_decide_eq_false (q_nt h); omega)
end
theorem vhRs {c:Cf} {v:Ev} {w t d:Int} {cf ln lc:Nat} {g:Nat->Int} (h:okMq c v):zae (vRs c v w t d cf ln lc g iRs (jRs 1) (jRs 2)):=by
 refine zae.pr (vRs_eq ..) ?_
 (with_reducible repeat' first | exact V.okI | refine V.brT ?_ | refine V.brF ?_ | refine V.brI ?_ ?_ | refine V.anyI ?_ | refine nN_h rfl ?_ | refine V.needI ?_ ?_ | intro _)
 all_goals first
  | assumption
  | exact True.intro
  | exact Nat.zero_le _
  | exact q_cm ‹_›
  | exact q_cm1 ‹_› (by decide)
  | exact q_ka ‹_›
  | exact q_kb ‹_›
  | exact q_j ‹_› ‹_› (by decide) ‹_› (by first | exact q_v ‹_› | exact casV_ok (q_v ‹_›) (zft _) | exact zft _)
  | exact q_2 ‹_›
  | exact q_2d ‹_› ‹_›
  | exact q_i ‹_›
  | exact q_mu ‹_› ‹_› (by decide)
  | exact q_di (q_n ‹_›) ‹_›
  | exact q_ex ‹_›
  | exact q_r ‹_› ‹_›
  | exact q_r2 ‹_› ‹_›
  | exact q_m0 ‹_›
  | exact q_yk ‹_› (by decide)
  | exact ⟨h.1,rfl,by decide,by decide⟩
  | (exfalso; exact q_tn ‹_› (by with_reducible assumption) (by with_reducible assumption))
  | (exfalso; exact rs_tn ‹_› (by with_reducible assumption) (by with_reducible assumption))
  | exact rs_1 (by with_reducible assumption)
  | exact rs_2 (by with_reducible assumption)
  | exact rs_3 (by with_reducible assumption)
  | exact rs_4 (by with_reducible assumption)
  | exact q_nt (by with_reducible assumption)
  | exact q_nf (by with_reducible assumption)
  | exact q_ctf ‹_› ‹_› (by decide) ‹_›
  | exact q_ctg ‹_› ‹_› (by decide)
  | exact ⟨Nat.le_refl _,by assumption⟩
  | exact ⟨Nat.zero_le _,Nat.zero_le _⟩
  | exact ⟨Nat.le_refl _,rfl⟩
  | exact q_if ‹_›
  | (subst_vars; rfl)
  | decide
  | exact Nat.zero_lt_one
  | exact Int.le_refl 0
  | exact ⟨v.m,trivial⟩
  | exact ⟨by decide,by decide,Int.natCast_nonneg _⟩
  | trace_state
noncomputable section
def cRs:List SV->Hp->Out (SV×Hp):=cMq 16 60 rsX hRz okMq
theorem cRs_ok:zab P fMt cRs:=cMq_ok fun c v a b d cf ln lc g=>zai cnRs_ok fun h=>vhRs h
end
end Go.Proofs.YtfnmfjpdkdnaaaaGreat.En
