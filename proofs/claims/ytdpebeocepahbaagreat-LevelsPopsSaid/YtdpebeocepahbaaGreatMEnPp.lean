/- Pop of levels, step by step with the reference's: what is asked. -/
import Derived.Test.YtdpebeocepahbaaGreatMEnLp
import Derived.Test.YtdpebeocepahbaaGreatMEnG
import Derived.Test.YtdpebeocepahbaaGreatMEg
import Derived.Test.YtdpebeocepahbaaGreatMW
import Derived.Test.YtdpebeocepahbaaGreatMV
import Derived.Test.YtdpebeocepahbaaGreatMEnLr
import Derived.Test.YtdpebeocepahbaaGreatMMd
set_option maxHeartbeats 64000000
set_option linter.unusedVariables false
set_option linter.unusedSimpArgs false
set_option maxRecDepth 100000
open Go.IntKind (i64 u64)
open Int renaming ofNat -> O
open Nat renaming le_refl -> Z
open Go.Proofs.YtdpebeocepahbaaGreat.Sx.V renaming need -> U, br -> zj, ok -> zx, any -> z9
namespace Go.Proofs.YtdpebeocepahbaaGreat.En
open Go Go.RowKit Sx Cn Dc Ck Vc Md
noncomputable section
structure XPp where
 s:Int
 m:Mm
 now:Int
 lv:Int
 ob:Int
 u:Int
 ln:Int
 x:Int
 z:Int
 co:Int
 cf:Nat
def tPo:TypeId:=98
def tOo:TypeId:=218
def tCl:TypeId:=215
def quX (c:Cf) (w l:Int):Qu:=quN c.W c.L c.C c.D c.H w l
def poB (w lv ln ins:SC):Blk:=.own 102 7 ([.kb false,.ki .i64 0,.ki .i64 0,w,lv,ln,ins].map some)
def ooB (q:Qu) (ln b t:SC):Blk:=.own 220 10 ([.kb false,.ki .i64 0,.ki .i64 0,i6 q.t,i6 q.b,i6 q.r,i6 q.c,ln,b,t].map some)
def reB (e co cell bit:SC) (q:Qu) (ln b:SC):Blk:=.own 217 11 ([e,co,.ki .i64 0,cell,bit,i6 q.t,i6 q.b,i6 q.r,i6 q.c,ln,b].map some)
def fPp (w lv ln u:SC):List SC:=frR 6 ln z6 z6 z6 z6 w z6 z6 lv z6 z6 z6 u zU zU zU
def fOo (q:Qu) (ln b t:SC):List SC:=frR 1 ln (i6 q.t) (i6 q.b) (i6 q.r) (i6 q.c) z6 z6 z6 z6 z6 z6 z6 b t zU zU
def fRe (cell bit:SC) (q:Qu) (ln b t:SC):List SC:=frR 4 ln (i6 q.t) (i6 q.b) (i6 q.r) (i6 q.c) cell bit z6 z6 z6 z6 z6 b t zU zU
def dp0:Blk:=.fam true 0 (fun _=>0) (fun _=>0) []
def ppL (j:Nat):SC:=match j with
 | 0 | 3=>k6 1
 | 4 | 5 | 6 | 7=>k6 3
 | _=>k6 2
def ppI (ki j:Nat):SC:=match j with
 | 0 | 3=>.nilI
 | 4 | 5 | 6 | 7=>.ifc tCl ki (.k 0) (.k 0) 0 11
 | _=>.ifc tOo ki (.k 0) (.k 0) 0 10
def ppB (c:Cf) (w bm:Int) (x:XPp) (j:Nat):Blk:=match j with
 | 0=>dp0
 | 1 | 2=>ooB (quX c w x.lv) (k6 1) zU zU
 | 3=>reB (.kb true) (i6 x.co) (i6 bm) (i6 x.lv) (quX c w x.lv) (i6 x.ln) (uw x.x)
 | 4=>reB (.kb false) z6 (i6 bm) (i6 x.lv) (quX c w x.lv) (k6 1) zU
 | 5 | 6 | 7=>reB (.kb false) z6 (i6 bm) (i6 x.lv) (quX c w x.lv) (k6 (j - 3)) (uw x.x)
 | _=>ooB (quX c w x.lv) (k6 (j - 6)) (uw x.x) (uw x.z)
def ppF (c:Cf) (w bm:Int) (x:XPp) (j:Nat):List (List SC):=match j with
 | 0=>[fPp (i6 w) z6 (k6 1) zU]
 | 1=>[fPp (i6 w) (i6 x.lv) (k6 2) (uw x.u)]
 | 2=>[fPp (i6 w) (i6 x.lv) (k6 2) (uw x.u),fRe (i6 bm) (i6 x.ob) (quX c w x.ob) (i6 x.ln) (uw x.x) (uw x.z)]
 | 3=>[fPp (i6 w) (i6 x.lv) (k6 1) (uw x.u),fRe (i6 bm) (i6 x.lv) (quX c w x.lv) (i6 x.ln) (uw x.x) (uw x.z)]
 | 4=>[fPp (i6 w) (i6 x.lv) (k6 3) (uw x.u),fOo (quX c w x.lv) (i6 x.ln) (uw x.x) (uw x.z)]
 | 5 | 6 | 7=>[fPp (i6 w) (i6 x.lv) (k6 3) (uw x.u),fRe (i6 bm) (i6 x.lv) (quX c w x.lv) (k6 (j - 3)) (uw x.x) (uw x.z)]
 | 11 | 13 | 15=>[fPp (i6 w) (i6 x.lv) (k6 2) (uw x.u),fOo (quX c w x.lv) (i6 (O (j - 6))) (uw x.x) (uw x.z)]
 | _=>[fPp (i6 w) (i6 x.lv) (k6 2) (uw x.u),fOo (quX c w x.lv) (k6 (j - 6)) (uw x.x) (uw x.z)]
def ppM (j:Nat):Nat:=match j with
 | 0 | 1 | 2 | 3 | 4=>1
 | _=>2
def nxL (n:Nat):List Nat:=match n with
 | 0=>[1]
 | 1 | 2=>[8]
 | 3=>[2]
 | 4=>[5]
 | 5=>[6]
 | 6=>[7,3]
 | 7=>[3]
 | 8=>[9,4]
 | 9=>[10]
 | 10=>[11,12,15]
 | 12=>[13,15]
 | 13=>[14]
 | 15=>[4]
 | _=>[]
def nxP (n i:Nat):Nat:=match i with
 | 0=>n
 | i+1=>((nxL n)[i]?).getD n
def okX (n i:Nat):Prop:=1<=i/\i < 1+(nxL n).length
def insPp (s:St):Nat:=insK 2 6 [220,217] s
def rowQ (k:Nat) (h:HL):Nat:=match find k h with
 | some (.row _ _ n _)=>n
 | _=>0
def litN:Option SC->Nat
 | some (.ki _ n)=>n.toNat
 | _=>99
def shPp (s:St):Nat:=fN (tmK 2 s) fun k=>fN (frKi 3 s) fun kf=>match zay k 6 s.H.h with
 | some (.ifc t ki _ _ _ _)=>(match Nat.beq t tOo with
  | true=>fN (litN (zay ki 7 s.H.h)) fun n=>(match n with
   | 1=>(match Nat.beq (rowQ kf s.H.h) 1 with
    | true=>1
    | false=>2)
   | n=>n+6)
  | false=>fN (litN (zay ki 9 s.H.h)) fun n=>n+3)
 | _=>(match Nat.beq (rowQ kf s.H.h) 1 with
  | true=>0
  | false=>3)
def headC:Col->Option Int
 | .ck (a::_)=>numC a
 | _=>none
def rdPp (q:Int) (m:Mm) (w:Int) (s:St):Option XPp:=fN (tmK 2 s) fun kx=>fN (frKi 3 s) fun kf=>fN (insPp s) fun ki=>fN (shPp s) fun j=>match ceS (tmK 3 s) 0 s.H.h,ceI kx 4 s.H.h,(find kf s.H.h).map zfy with
 | some (_,_,cf),some lv,some (_::l::_::_::_::_::_::b::_::_::_::_::_::u::t::_)=>(match headC u with
  | some u0=>(match j with
   | 0=>some ⟨q,m,w,0,0,0,0,0,0,0,cf⟩
   | 1=>some ⟨q,m,w,lv,0,u0,0,0,0,0,cf⟩
   | _=>(match lastC l,lastC b,lastC u,lastC t with
    | some l,some b,some x,some z=>(match j with
     | 2=>some ⟨q,m,w,lv,b,u0,l,x,z,0,cf⟩
     | 3=>(match ceI ki 1 s.H.h with | some co=>some ⟨q,m,w,lv,0,u0,l,x,z,co,cf⟩ | none=>none)
     | 4=>some ⟨q,m,w,lv,0,u0,l,x,z,0,cf⟩
     | _=>some ⟨q,m,w,lv,0,u0,0,x,z,0,cf⟩)
    | _,_,_,_=>none))
  | none=>none)
 | _,_,_=>none
def laPp (c:Cf) (w:Int) {X:Type} (gx:X->XPp) (sh:X->Nat) (rx:St->XPp->Option X) (I:X->Prop) (s:St):Option (LA X):=match maL 3 s with
 | some ma=>fN (insPp s) fun ki=>laMt (fun x=>(gx x).m) (fun x=>(gx x).now) (fun x=>(gx x).s) [(tmK 2,false),(tmK 3,true),(frKi 3,false),(insPp,false)]
   (fun x=>poB (i6 w) (match sh x with | 0=>z6 | _=>i6 (gx x).lv) (ppL (sh x)) (ppI ki (sh x))::(ma (ppF c w (bmN c.W c.C c.H w) (gx x) (sh x)) (ppM (sh x)) (gx x).cf++[ppB c w (bmN c.W c.C c.H w) (gx x) (sh x)]))
   (fun q m now s=>match rdPp q m now s with | some x=>rx s x | none=>none) I s
 | none=>none
def laPs (c:Cf) (w:Int) (I:Nat×XPp->Prop):St->Option (LA (Nat×XPp)):=laPp c w (fun x=>x.2) (fun x=>x.1) (fun s x=>fN (shPp s) fun n=>some (n,x)) I
def atL (m:Nat):List Nat->Nat->Nat
 | [],_=>98
 | a::l,i=>match Nat.beq a m with
  | true=>i
  | false=>atL m l (i+1)
def laPn (c:Cf) (w:Int) (J:Nat->Int->XPp->Prop) (s:St):Option (LA (Nat×XPp)):=fN (shPp s) fun n=>laCt (laPp c w (fun x=>x.2) (fun x=>nxP n x.1) (fun s x=>fN (shPp s) fun m=>fN (match Nat.beq m n with | true=>0 | false=>atL m (nxL n) 1) fun i=>some (i,x)) fun _=>True) (fun q x=>okX n x.1/\J (nxP n x.1) q x.2) s
def shN (s:St):Sh:=fN (shPp s) fun n=>fN (nxL n).length fun k=>.to k
def laPc (c:Cf) (w:Int) (J:Nat->Int->XPp->Prop) (s:St):Option (LA XPp):=fN (shPp s) fun n=>laCt (laPp c w (fun x=>x) (fun _=>n) (fun _ x=>some x) fun _=>True) (J n) s
def cnPp:Con:=Con.add fRA cRA (Con.add fDi cDi (Con.add fSm cSm (Con.add fQw xQr (Con.add fRm xBr (Con.add fMk xMk (Con.add fRg xRg (Con.add fHi xHi (Con.add fHw xHi (Con.add fQu xQu (Con.add fLb xBl (Con.add fBit xBit (Con.add fCell xCell (conU con0)))))))))))))
theorem cnPp_ok:zak P cnPp:=.add cRA_ok (.add cDi_ok (.add cSm_ok (.add xQr_ok (.add xBr_ok (.add xMk_ok (.add xRg_ok (.add xHi_ok (.add xHw_ok (.add xQu_ok (.add xBl_ok (.add xBit_ok (.add xCell_ok (conU_ok zak.nil)))))))))))))
def ppX:SC:=.ifc tPo 14 (.k 0) (.k 0) 0 7
def hPp (c:Cf) (v:Ev) (a b d:Int) (cf ln:Nat) (g:Nat->Int):HL:=hMt c v (poB (i6 a) z6 (k6 1) .nilI) (frL [fPp (i6 a) z6 (k6 1) zU]) cf ln g
def avPp (c:Cf) (a:Int) (I:Nat×XPp->Prop) (J1 J2:Nat->Int->XPp->Prop):AV:=.loopS 16 XPp [.renT 2,.ren (frKi 3),.newFam 0 []] (laPs c a I) (.cutS 16 shN XPp (laPn c a J1) .nil (.cut 18 XPp (laPc c a J2) .nil (.cut 21 XPp (laPc c a J2) .nil .nil))) .nil
def vPp (c:Cf) (v:Ev) (a b d:Int) (cf ln lc:Nat) (g:Nat->Int) (I:Nat×XPp->Prop) (J1 J2:Nat->Int->XPp->Prop):V:=verF P cnPp 6 8 fMt [] (avPp c a I J1 J2) (argMq ppX 120 ln lc) ⟨hPp c v a b d cf ln g,18,fun _=>True⟩ (yesF 18)
def vPpO (j:Nat) (c:Cf) (v:Ev) (a b d:Int) (cf ln lc:Nat) (g:Nat->Int) (I:Nat×XPp->Prop) (J1 J2:Nat->Int->XPp->Prop):V:=verO 16 1 j P cnPp 6 8 fMt [] (avPp c a I J1 J2) (argMq ppX 120 ln lc) ⟨hPp c v a b d cf ln g,18,fun _=>True⟩ (yesF 18)
end
abbrev znpps2 (c:Cf) (a:Int) (y1:XPp) (v:Ev):V:=U ((quN c.W c.L c.C c.D c.H a (hiB (y1.m.val v.n (bmN c.W c.C c.H a)))).t=(quX c a (hiB (y1.m.val v.n (bmN c.W c.C c.H a)))).t) (U ((quN c.W c.L c.C c.D c.H a (hiB (y1.m.val v.n (bmN c.W c.C c.H a)))).b=(quX c a (hiB (y1.m.val v.n (bmN c.W c.C c.H a)))).b) (U ((quN c.W c.L c.C c.D c.H a (hiB (y1.m.val v.n (bmN c.W c.C c.H a)))).r=(quX c a (hiB (y1.m.val v.n (bmN c.W c.C c.H a)))).r) (U ((quN c.W c.L c.C c.D c.H a (hiB (y1.m.val v.n (bmN c.W c.C c.H a)))).c=(quX c a (hiB (y1.m.val v.n (bmN c.W c.C c.H a)))).c) zx)))
abbrev znpp0 (a0:Rk) (l:LP):LP:=(1,.pf (∀ (i:Nat),i < a0.n->a0.kl i<=a0.kl i) (by intros; exact Z _))::(1,.pf (∀ (i e:Nat),i < a0.n/\e < a0.kl i->a0.kd i e=a0.kd i e) (by intros; rfl))::l
abbrev znpp4 (a0:Rk) (a1:Ev) (a2:Mm) (a3:XPp) (k:V):V:=nN (znpp0 a0 []) (U (okCm (Cm.mk a1.n a2 a3.now a0 0 (Evs.mk (fun (i:Nat)=>O 0) (fun (i:Nat)=>O 0) (fun (i:Nat)=>O 0) (fun (i:Nat)=>O 0) fun (i:Nat)=>O 0))) k)
abbrev znpp7 (a0:Rm) (l:LP):LP:=qE a0.r::(1,.eq 0 0)::qE a0.e::l
abbrev znpp50 (a0:Rk) (a1:Rm) (l:LP):LP:=qE a0.n::znpp7 a1 l
abbrev znpp6 (l:LP):LP:=(1,.le 1 1)::(1,.pf (∀ (i:Nat),i < 1->1<=1) (by intros; exact Z _))::l
abbrev znpp8 (a0:Ev) (a1:Rm) (a2:Mm) (l:LP):LP:=qE a0.n::qE a1.c::qE a2.lk::qE a2.lc::qE a2.lo::qE a2.ln::qE a2.ct::l
abbrev znpp2 (a0:Ev) (a1:Rm) (a2:Mm) (k:V):V:=U (a0.n<=a0.n/\a0.n<=a1.c) (nN [(1,.pf (∀ (i e:Nat),i=0/\e < a0.n->a2.g e=a2.g e) (by intros; rfl))] k)
abbrev znpp38 (a0:Ev) (a1:Rm) (a2:Mm) (k:V):V:=nN [(1,.le 1 1)] (znpp2 a0 a1 a2 k)
abbrev znpp73 (a0:Rk) (a1:Rm) (a2:Ev) (a3:Mm) (k:V):V:=nN (znpp6 (znpp50 a0 a1 (znpp8 a2 a1 a3 []))) (znpp38 a2 a1 a3 k)
abbrev znpp72 (a0:Ev) (a1:Rm) (a2 a3:Mm) (k:V):V:=nN [qE a0.n,qE a1.c] (U (a2.lk=a3.lk) (U (a2.lc=a3.lc) (U (a2.lo=a3.lo) (U (a2.ln=a3.ln) (U (a2.ct=a3.ct) k)))))
abbrev znpp39 (a0:Rk) (a1:Rm) (l:LP):LP:=(1,.le 1 1)::(1,.pf (∀ (i:Nat),i < 1->a0.n<=a0.n) (by intros; exact Z _))::(1,.pf (∀ (i e:Nat),i < 1/\e < a0.n->a0.p e=a0.p e) (by intros; rfl))::(1,.pf (∀ (i e:Nat),i < 1/\e < a0.n->a0.pa e=a0.pa e) (by intros; rfl))::(1,.pf (∀ (i e:Nat),i < 1/\e < a0.n->a0.pc e=a0.pc e) (by intros; rfl))::(1,.pf (∀ (i e:Nat),i < 1/\e < a0.n->a0.lf e=a0.lf e) (by intros; rfl))::(1,.pf (∀ (i e:Nat),i < 1/\e < a0.n->a0.wt e=a0.wt e) (by intros; rfl))::(1,.pf (∀ (i e:Nat),i < 1/\e < a0.n->e=e) (by intros; rfl))::(1,.pf (∀ (i e:Nat),i < 1/\e < a0.n->a0.kl e=a0.kl e) (by intros; rfl))::(1,.pf (∀ (i e:Nat),i < 1/\e < a0.n->a1.k e=a1.k e) (by intros; rfl))::(1,.pf (∀ (i e:Nat),i < 1/\e < a0.n->a0.st e=a0.st e) (by intros; rfl))::(1,.le 1 1)::(1,.pf (∀ (i:Nat),i < 1->0<=0) (by intros; exact Z _))::(5,.pf (∀ (i e:Nat),i < 1/\e < 0->O 0=O 0) (by intros; rfl))::l
abbrev znpp78 (a0:Rk) (a1:Rm) (a2:Ev) (a3:Rm) (a4 a5:Mm) (k:V):V:=nN (znpp39 a0 a1 []) (znpp72 a2 a3 a4 a5 k)
abbrev znpp80 (a0:Rk) (a1:Rm) (a2:Ev) (a3 a4:Mm) (k:V):V:=nN (znpp50 a0 a1 [(1,.le 1 1)]) (U (a2.n<=a2.n/\a2.n<=a1.c) (U (∀ (i e:Nat),i=0/\e < a2.n->a3.g e=a4.g e) (nN (znpp39 a0 a1 (qL a0.n::znpp0 a0 [qL a0.n])) k)))
abbrev znpps3 (v:Ev) (y3:Mm) (y1:XPp) (y4:Mm):V:=znpp73 v.x v.a v y3 (nN [qE y1.now] (znpp78 v.x v.a v v.b y4 y3 (nN [qE y1.now] (znpp80 v.x v.b v y4 y3 (znpp4 v.x v y3 y1 (U True zx))))))
abbrev znpp9 (a0:Rm) (a1:Ev) (a2:Mm) (l:LP):LP:=qE a0.c::qL a1.n::qF a1.n a2.g::l
abbrev znpp11 (a0:Rm) (a1:Ev) (a2:Mm) (l:LP):LP:=znpp7 a0 (znpp9 a0 a1 a2 l)
abbrev znpp14 (a0:XPp) (a1:Ev) (l:LP):LP:=qE a0.now::qE a1.dr::l
abbrev znpp15 (a0:Ev) (a1:Rm) (a2:Mm) (a3:XPp) (l:LP):LP:=znpp8 a0 a1 a2 (znpp14 a3 a0 l)
abbrev zcw (a0:Ev) (a1:Rm) (a2:Mm) (l:LP):LP:=znpp8 a0 a1 a2 (znpp9 a1 a0 a2 l)
abbrev zcy (a0:Cf) (l:LP):LP:=qE a0.W::qE a0.L::qE a0.C::qE a0.T::qE a0.D::qE a0.H::qE a0.B::qE a0.A::qE a0.P::qE a0.nP::qE a0.rc::qE a0.nU::qE a0.cu::l
abbrev znpp19 (a0:Ev) (a1:Rm) (a2:Mm) (a3:Cf) (l:LP):LP:=zcw a0 a1 a2 (zcy a3 l)
abbrev znpp29 (a0:Ev) (a1:Rm) (a2:Mm) (a3:Cf) (a4:Rm) (a5:XPp) (a6:Rk) (l:LP):LP:=znpp19 a0 a1 a2 a3 (znpp15 a0 a4 a2 a5 (qE a6.n::l))
abbrev zgq (a0:Ev) (a1:Rm) (a2:Mm) (a3:Cf) (a4:Rm) (a5:XPp) (a6:Rk) (a7:Int) (l:LP):LP:=znpp29 a0 a1 a2 a3 a4 a5 a6 (znpp11 a4 a0 a2 (znpp14 a5 a0 (qE a7::l)))
abbrev znpp59 (a0:Nat->Int->XPp->Prop) (a1:XPp) (a2:Mm) (a3:XPp) (a4:Ev) (a5:Rm) (a6:Cf) (a7:Rm) (a8:Rk) (a9:Int) (k:V):V:=U (a0 1 a1.s (XPp.mk a1.s a2 a3.now a3.lv (O 0) a3.u (O 0) (O 0) (O 0) (O 0) a3.cf)) (nN (zgq a4 a5 a2 a6 a7 a3 a8 a9 []) k)
abbrev znpp64 (a0:XPp) (k:V):V:=U (O 0<=O 0/\O 0<=O 0/\O 0<=(↑a0.cf:Int)) (nN [(12,.lt2 0 1 0 1)] k)
abbrev znpp68 (a0:Mm) (a1:Ev) (a2:Cf) (a3:Int) (k:V):V:=nN [qE (a0.val a1.n (bmN a2.W a2.C a2.H a3))] (U (O 0<=a0.val a1.n (bmN a2.W a2.C a2.H a3)/\a0.val a1.n (bmN a2.W a2.C a2.H a3)<=O 18446744073709551615) k)
abbrev znpp12 (a0:XPp) (a1:Nat) (k:V):V:=U (O 0<=a0.s/\a0.s < (↑a1:Int)) (U (0 < 1/\0+a0.s.toNat < a1) (U (0 < 1/\0+a0.s.toNat < a1) k))
abbrev zcr (a0:XPp) (a1:Nat) (k:V):V:=znpp12 a0 a1 (nN [(1,.neI 13 0)] k)
abbrev znpp1 (l:LP):LP:=(1,.le 0 0)::(1,.pf (∀ (i:Nat),i < 0->0<=0) (by intros; exact Z _))::l
abbrev znpp48 (l:LP):LP:=znpp1 (znpp1 l)
abbrev zhl (a0:Cf) (k:V):V:=nN (znpp48 []) (U (okYn a0.W a0.L a0.C a0.T a0.D a0.H) k)
abbrev znpp84 (a0:Int) (l:LP):LP:=(1,.le 1 1)::qE a0::l
abbrev znpp23 (a0:XPp) (a1:Ev) (l:LP):LP:=qE (i64.wrap (a0.now+O 1))::qE a1.dr::l
abbrev zds (a0:Rm) (a1:Ev) (a2:Mm) (a3:XPp) (l:LP):LP:=znpp11 a0 a1 a2 (znpp23 a3 a1 l)
abbrev znpp87 (a0:Ev) (l:LP):LP:=qE a0.now::qE a0.dr::l
abbrev zb1 (a0:Rm) (a1:Ev) (a2:Mm) (l:LP):LP:=znpp11 a0 a1 a2 (znpp87 a1 l)
abbrev znpp47 (a0:Ev) (a1:Rm) (a2:Mm) (a3:Cf) (a4:Rm) (l:LP):LP:=znpp19 a0 a1 a2 a3 (znpp8 a0 a4 a2 l)
abbrev zch (a0:Ev) (a1:Rm) (a2:Mm) (a3:Cf) (a4:Rm) (a5:XPp) (l:LP):LP:=znpp47 a0 a1 a2 a3 a4 (znpp23 a5 a0 l)
abbrev znpp108 (a0:Int) (a1:Cf) (k:V):V:=nN [qE a0] (U (okYn a1.W a1.L a1.C a1.T a1.D a1.H/\lB a1=O 4+a1.H+a1.C+a1.W) k)
abbrev znpp85 (a0:Rm) (a1:Mm) (a2:Ev) (a3:Mm) (k:V):V:=nN [qE a0.c,qE a1.ct,(1,.le 1 1)] (znpp2 a2 a0 a1 (U (decide (a1.ct > i64.wrap (a3.ct+O 1))=false) k))
abbrev znpp86 (a0:Rk) (a1:Rm) (a2:Ev) (a3:Mm) (a4:XPp) (a5:Rm) (a6:Mm) (k:V):V:=znpp73 a0 a1 a2 a3 (nN [qE a4.now] (znpp78 a0 a1 a2 a5 a6 a3 (nN [qE a4.now] (znpp80 a0 a5 a2 a6 a3 (znpp4 a0 a2 a3 a4 (nN [(3,.lt2 0 1 0 1)] k))))))
abbrev zbb (a0:Rk) (a1:Rm) (a2:Ev) (a3:Mm) (a4:XPp) (a5:Rm) (a6 a7:Mm) (k:V):V:=znpp86 a0 a1 a2 a3 a4 a5 a6 (nN [qE a2.n] (znpp85 a1 a3 a2 a7 k))
abbrev zbz (a0:Int) (a1:Nat×XPp->Prop) (k:Bool->V):V:=nN (znpp84 a0 []) (U (∀ (i:Nat),0=0\/0=0) (U (∀ (i:Nat),0<=0/\0<=0) (U (∀ (x:Nat×XPp),a1 x->x.fst < 16) (z9 Bool (fun (x:Bool)=>True) fun v0=>k v0))))
abbrev zbc (a0:Ev) (a1:Rm) (a2:Mm) (a3:Cf) (a4:Rm) (a5:Mm) (a6:XPp) (a7:Rk) (k:V):V:=nN (znpp19 a0 a1 a2 a3 []) (znpp72 a0 a4 a5 a2 (nN (znpp14 a6 a0 (znpp50 a7 a4 [qE a4.c,qL a0.n])) (U (∀ (e:Nat),e < a0.n->a5.g e=a2.g e) (nN (znpp14 a6 a0 []) k))))
abbrev zb0 (a0:Ev) (a1:Rm) (a2:Mm) (k:V):V:=nN [(9,.lt2 0 1 0 1),qE a0.n,qE a1.c,qE a2.ct] (znpp38 a0 a1 a2 k)
abbrev zbx (a0:Nat×XPp->Prop) (a1:Mm) (a2:Ev) (a3:Nat) (a4:Rm) (a5:Cf) (a6:Rm) (k:V):V:=nN [(7,.lt2 0 1 0 1)] (U (a0 (0,XPp.mk (O 0) a1 a2.now (O 0) (O 0) (O 0) (O 0) (O 0) (O 0) (O 0) a3)) (nN ((1,.eqI 0 0)::znpp47 a2 a4 a1 a5 a6 (znpp87 a2 [])) k))
abbrev ze9 (a0:XPp) (k:V):V:=U ((O 200 - i64.wrap (a0.s+O 1)).toNat < (O 200 - a0.s).toNat) (nN [qE (i64.wrap (a0.s+O 1))] k)
abbrev znpp138 (a0:Nat×XPp->Prop) (a1:XPp) (a2:Mm) (a3:XPp) (k:V):V:=U (a0 (1,XPp.mk (i64.wrap (a1.s+O 1)) a2 a3.now a3.lv (O 0) a3.u (O 0) (O 0) (O 0) (O 0) a3.cf)) (ze9 a1 k)
abbrev znpp58 (a0:Rm) (a1:Ev) (a2:Mm) (a3:Rk) (k:V):V:=nN (znpp11 a0 a1 a2 (znpp48 [(1,.le 0 1)])) (U (∀ (i:Nat),i < 0->0<=a3.n) (nN [(1,.le 0 1),(1,.pf (∀ (i:Nat),i < 0->0<=0) (by intros; exact Z _))] k))
abbrev zhb (a0:Ev) (a1:Rm) (a2:Mm) (a3:XPp) (a4:Rk) (k:V):V:=nN (znpp15 a0 a1 a2 a3 [qE a4.n]) (znpp58 a1 a0 a2 a4 k)
abbrev zcf (a0:Cf) (a1:Ev) (a2:Rm) (a3:Mm) (a4:XPp) (a5:Rk) (k:V):V:=nN ((2,.eqI 0 0)::zcy a0 []) (zhb a1 a2 a3 a4 a5 k)
abbrev zf6 (a0:Cf) (a1:Int) (a2:XPp) (l:LP):LP:=qE ((quX a0 a1 a2.lv).t)::qE ((quX a0 a1 a2.lv).b)::qE ((quX a0 a1 a2.lv).r)::qE ((quX a0 a1 a2.lv).c)::l
abbrev znpp118 (a0:XPp) (l:LP):LP:=qE a0.lv::qE a0.u::l
abbrev zdj (a0:XPp) (a1:Int) (a2:Cf) (l:LP):LP:=qE a0.lv::qE a0.cf::qE a0.cf::znpp84 a1 (znpp118 a0 (zf6 a2 a1 a0 l))
abbrev zck (a0:XPp) (a1:Nat) (k:V):V:=znpp12 a0 a1 (nN [(1,.neI 3 0)] k)
abbrev zbn (a0:XPp) (a1:Nat) (a2:Nat->Int) (a3:Ev) (a4:Rm) (a5:Mm) (a6:Cf) (a7:Rm) (a8:XPp) (a9:Rk) (k:Mm->V):V:=zck a0 a1 (znpp12 a0 a1 (nN ((1,.neI 7 0)::qE (i64.wrap ((a2 (0+a0.s.toNat)).tdiv (O 3)))::qE (i64.wrap ((a2 (0+a0.s.toNat)).tdiv (O 7)))::znpp6 (znpp29 a3 a4 a5 a6 a7 a8 a9 [])) (znpp58 a7 a3 a5 a9 (U (a3.n<=1000000/\okMw (O 1000000000) a5) (nA (okMw (a5.ct+O 1)) fun v0=>k v0)))))
abbrev znpp32 (a0:Mm) (a1:Ev) (a2:Cf) (a3:Int) (k:Mm->V):V:=nN [qX (a0.acc a1.n (O 1) (bmN a2.W a2.C a2.H a3) (a0.val a1.n (bmN a2.W a2.C a2.H a3)))] (z9 Mm (fun (m':Mm)=>m'=a0.acc a1.n (O 1) (bmN a2.W a2.C a2.H a3) (a0.val a1.n (bmN a2.W a2.C a2.H a3))) fun v0=>k v0)
theorem vPp0_eq (c:Cf) (v:Ev) (a b d:Int) (cf ln lc:Nat) (g:Nat->Int) (I:Nat×XPp->Prop) (J1 J2:Nat->Int->XPp->Prop):V.pr (.b (.b (.b (.b (.t (.f .z)) (.f (.f .z))) .z) .z) .z) (vPpO 0 c v a b d cf ln lc g I J1 J2)=
 zbx I v.m v cf v.a c v.b (nN (qE v.x.n::zb1 v.b v v.m [qE a,qE cf,qE cf]) (zbz a I fun y0=>zj y0 (z9 XPp (fun (x:XPp)=>I (0,x)) fun y1=>zj (decide (y1.s < O 120)) (nN (zgq v v.a y1.m c v.b y1 v.x a (qE y1.cf::qE y1.cf::znpp84 a [])) (U (∀ (i:Nat),0=0\/0=0) (U (∀ (i:Nat),0<=0/\0<=0) (z9 Bool (fun (x:Bool)=>True) fun y2=>zj y2 (zb0 v v.a y1.m (nN [(19,.lt2 0 1 0 1),qE c.W,qE c.L,qE c.C,qE c.T,qE c.D,qE c.H,qE (lS c),qE (lE c),qE (lB c),qE (lQ c),qE (lT c)] (znpp108 a c (nN (qE (bmN c.W c.C c.H a)::zcw v v.a y1.m []) (znpp32 y1.m v c a fun y3=>zj (y1.m.val v.n (bmN c.W c.C c.H a) == O 0) (nN ((7,.lt2 0 1 0 1)::(6,.lt 0 1)::(7,.lt2 0 1 0 1)::(3,.lt 0 1)::(16,.lt2 0 1 0 1)::zcy c [qE a]) (zhl c (nN [qE (bmN c.W c.C c.H a)] (zcf c v v.b y1.m y1 v.x (znpp32 y1.m v c a fun y4=>nN [(2,.lt2 0 1 0 1),(4,.lt 0 1)] (U ((y1.m.val v.n (bmN c.W c.C c.H a) == O 0)=true) (nN [(6,.lt2 0 1 0 1)] (znpp64 y1 (zbb v.x v.a v y3 y1 v.b y4 y1.m (nN [(6,.lt2 0 1 0 1)] (znpps3 v y3 y1 y4))))))))))) (znpp68 y1.m v c a (nN [(19,.lt2 0 1 0 1),qE c.W,qE c.L,qE c.C,qE c.T,qE c.D,qE c.H,qE (lS c),qE (lE c),qE (lB c),qE (lQ c),qE (lT c),qE a,qE (hiB (y1.m.val v.n (bmN c.W c.C c.H a)))] (U (okYn c.W c.L c.C c.T c.D c.H/\lQ c=lQn c.W c.C c.H) (nN ((11,.lt2 0 1 0 1)::(6,.lt 0 1)::(7,.lt2 0 1 0 1)::(3,.lt 0 1)::(16,.lt2 0 1 0 1)::zcy c [qE a]) (zhl c (nN [qE (bmN c.W c.C c.H a)] (zcf c v v.b y1.m y1 v.x (znpp32 y1.m v c a fun y4=>nN [(2,.lt2 0 1 0 1),(4,.lt 0 1)] (U ((y1.m.val v.n (bmN c.W c.C c.H a) == O 0)=false) (nN [(3,.lt 0 1)] (znpp68 y1.m v c a (nN [(6,.lt 0 1)] (zbb v.x v.a v y3 y1 v.b y4 y1.m (U ((1<=1/\1 < 1+1)/\J1 1 y1.s (XPp.mk y1.s y3 y1.now (hiB (y1.m.val v.n (bmN c.W c.C c.H a))) (O 0) (y1.m.val v.n (bmN c.W c.C c.H a)) (O 0) (O 0) (O 0) (O 0) y1.cf)) (zbc v v.a y3 c v.b y4 y1 v.x (nN (qE a::qE (hiB (y1.m.val v.n (bmN c.W c.C c.H a)))::qE y1.cf::qE y1.cf::znpp84 a [qE (hiB (y1.m.val v.n (bmN c.W c.C c.H a))),qE (y1.m.val v.n (bmN c.W c.C c.H a))]) (znpps2 c a y1 v)))))))))))))))))))))) (U (∀ (x_2:Nat×XPp),okX 0 x_2.fst/\J1 (nxP 0 x_2.fst) y1.s x_2.snd->1<=x_2.fst/\x_2.fst < 2) (z9 Bool (fun (x:Bool)=>True) fun y3=>zj y3 (z9 XPp (fun (x_2:XPp)=>(1<=1/\1 < 1+1)/\J1 1 y1.s x_2) fun y4=>nN (zgq v v.a y4.m c v.b y4 v.x a (zdj y4 a c [])) (z9 Bool (fun (x:Bool)=>True) fun y5=>zj y5 (zj (decide (y1.s < (↑ln:Int))) (zck y1 ln (zj ((g (0+y1.s.toNat)).tmod (O 3) == O 1) (zbn y1 ln g v v.a y4.m c v.b y4 v.x fun y6=>znpp59 J2 y1 y6 y4 v v.a c v.b v.x a (nN (zdj y4 a c []) zx)) (znpp59 J2 y1 y4.m y4 v v.a c v.b v.x a (nN (zdj y4 a c []) zx)))) (znpp59 J2 y1 y4.m y4 v v.a c v.b v.x a (nN (zdj y4 a c []) zx))) (z9 XPp (J2 1 y1.s) fun y6=>nN (zgq v v.a y6.m c v.b y6 v.x a (zdj y6 a c [])) (z9 Bool (fun (x:Bool)=>True) fun y7=>zj y7 (zj (decide (y1.s < (↑ln:Int))) (zcr y1 ln (zj ((g (0+y1.s.toNat)).tmod (O 13) == O 5) (nN [(3,.lt2 0 1 0 1)] (U (J2 1 y1.s (XPp.mk y1.s y6.m (i64.wrap (y6.now+O 1)) y6.lv (O 0) y6.u (O 0) (O 0) (O 0) (O 0) y6.cf)) (nN (zch v v.a y6.m c v.b y6 (qE v.x.n::zds v.b v y6.m y6 (qE a::zdj y6 a c []))) zx))) (znpp59 J2 y1 y6.m y6 v v.a c v.b v.x a (nN (zdj y6 a c []) zx)))) (znpp59 J2 y1 y6.m y6 v v.a c v.b v.x a (nN (zdj y6 a c []) zx))) (z9 XPp (J2 1 y1.s) fun y8=>zj (y1.s == O 2) (znpp138 I y1 y8.m y8 (nN (zgq v v.a y8.m c v.b y8 v.x a (zdj y8 a c [])) zx)) (znpp138 I y1 y8.m y8 (nN (zgq v v.a y8.m c v.b y8 v.x a (zdj y8 a c [])) zx))))))) zx)))))) (U True zx)) zx)):=by kernel_rfl
abbrev znpp16 (a0:XPp) (l:LP):LP:=qE a0.cf::qE a0.cf::(1,.le 2 2)::l
abbrev zbr (a0:XPp) (l:LP):LP:=qE a0.lv::znpp16 a0 l
abbrev zfc (a0:XPp) (a1:Cf) (a2:Int) (l:LP):LP:=zbr a0 (zf6 a1 a2 a0 l)
abbrev znpp36 (a0:Ev) (a1:Rm) (a2:Mm) (a3:Cf) (a4:Rm) (a5:XPp) (a6:Rk) (a7:Int) (l:LP):LP:=zgq a0 a1 a2 a3 a4 a5 a6 a7 (zfc a5 a3 a7 l)
abbrev znpp55 (a0:Ev) (a1:Rm) (a2:Mm) (a3:Cf) (a4:Rm) (a5:XPp) (a6:Rk) (a7:Int) (l:LP):LP:=znpp36 a0 a1 a2 a3 a4 a5 a6 a7 (qE a7::l)
abbrev znpp20 (a0:XPp) (l:LP):LP:=qE a0.x::qE a0.z::l
abbrev znpp21 (a0:XPp) (l:LP):LP:=qE a0.lv::qE a0.u::znpp20 a0 l
abbrev znpp22 (a0:XPp) (a1:Cf) (a2:Int) (l:LP):LP:=znpp21 a0 (zf6 a1 a2 a0 l)
abbrev ze0 (a0:XPp) (a1:Cf) (a2:Int) (l:LP):LP:=znpp22 a0 a1 a2 (znpp20 a0 l)
abbrev zcd (a0:Ev) (a1:Rm) (a2:Mm) (a3:Cf) (a4:Rm) (a5:XPp) (a6:Rk) (a7:Int) (l:LP):LP:=znpp55 a0 a1 a2 a3 a4 a5 a6 a7 (ze0 a5 a3 a7 l)
abbrev znpp62 (a0:Nat×XPp->Prop) (a1 a2:XPp) (k:V):V:=U (a0 (8,{ a1 with s:=i64.wrap (a2.s+O 1),ob:=O 0,ln:=O 0,co:=O 0 })) (ze9 a2 k)
abbrev znpp28 (a0:XPp) (a1:Cf) (a2:Int) (k:Bool->V):V:=nN (ze0 a0 a1 a2 []) (z9 Bool (fun (x:Bool)=>True) fun v0=>k v0)
abbrev zde (a0:Ev) (a1:Rm) (a2:Mm) (a3:Cf) (a4:Rm) (a5:XPp) (a6:Rk) (a7:Int) (k:Bool->V):V:=nN (znpp55 a0 a1 a2 a3 a4 a5 a6 a7 []) (znpp28 a5 a3 a7 fun v0=>k v0)
abbrev znpp125 (a0:Nat->Int->XPp->Prop) (a1 a2:XPp) (k:V):V:=nN [(3,.lt2 0 1 0 1)] (U (a0 8 a1.s { a2 with s:=a1.s,now:=i64.wrap (a2.now+O 1),ob:=O 0,ln:=O 0,co:=O 0 }) k)
abbrev znpp45 (a0:Nat->Int->XPp->Prop) (a1 a2:XPp) (a3:Ev) (a4:Rm) (a5:Mm) (a6:Cf) (a7:Rm) (a8:Rk) (a9:Int) (k:V):V:=U (a0 8 a1.s { a2 with s:=a1.s,ob:=O 0,ln:=O 0,co:=O 0 }) (nN (znpp36 a3 a4 a5 a6 a7 a2 a8 a9 []) k)
abbrev znpps0 (J1:Nat->Int->XPp->Prop) (y1:XPp) (v:Ev) (c:Cf) (a:Int) (ln:Nat) (g:Nat->Int) (J2:Nat->Int->XPp->Prop) (I:Nat×XPp->Prop):V:=z9 Bool (fun (x:Bool)=>True) fun y3=>zj y3 (z9 XPp (fun (x_2:XPp)=>(1<=1/\1 < 1+1)/\J1 8 y1.s x_2) fun y4=>zde v v.a y4.m c v.b y4 v.x a fun y5=>zj y5 (zj (decide (y1.s < (↑ln:Int))) (zck y1 ln (zj ((g (0+y1.s.toNat)).tmod (O 3) == O 1) (zbn y1 ln g v v.a y4.m c v.b y4 v.x fun y6=>U (J2 8 y1.s { y4 with s:=y1.s,m:=y6,ob:=O 0,ln:=O 0,co:=O 0 }) (nN (zcd v v.a y6 c v.b y4 v.x a []) zx)) (znpp45 J2 y1 y4 v v.a y4.m c v.b v.x a (nN (qE a::ze0 y4 c a []) zx)))) (znpp45 J2 y1 y4 v v.a y4.m c v.b v.x a (nN (qE a::ze0 y4 c a []) zx))) (z9 XPp (J2 8 y1.s) fun y6=>zde v v.a y6.m c v.b y6 v.x a fun y7=>zj y7 (zj (decide (y1.s < (↑ln:Int))) (zcr y1 ln (zj ((g (0+y1.s.toNat)).tmod (O 13) == O 5) (znpp125 J2 y1 y6 (nN (zch v v.a y6.m c v.b y6 (qE v.x.n::zds v.b v y6.m y6 (qE a::zfc y6 c a (qE a::ze0 y6 c a [])))) zx)) (znpp45 J2 y1 y6 v v.a y6.m c v.b v.x a (nN (qE a::ze0 y6 c a []) zx)))) (znpp45 J2 y1 y6 v v.a y6.m c v.b v.x a (nN (qE a::ze0 y6 c a []) zx))) (z9 XPp (J2 8 y1.s) fun y8=>zj (y1.s == O 2) (znpp62 I y8 y1 (nN (zcd v v.a y8.m c v.b y8 v.x a []) zx)) (znpp62 I y8 y1 (nN (zcd v v.a y8.m c v.b y8 v.x a []) zx))))) zx
abbrev znpp65 (a0:Cf) (a1:Int) (a2:XPp) (k:V):V:=U ((quN a0.W a0.L a0.C a0.D a0.H a1 a2.lv).t=(quX a0 a1 a2.lv).t) (U ((quN a0.W a0.L a0.C a0.D a0.H a1 a2.lv).b=(quX a0 a1 a2.lv).b) k)
abbrev znpp66 (a0:Cf) (a1:Int) (a2:XPp) (k:V):V:=U ((quN a0.W a0.L a0.C a0.D a0.H a1 a2.lv).r=(quX a0 a1 a2.lv).r) (U ((quN a0.W a0.L a0.C a0.D a0.H a1 a2.lv).c=(quX a0 a1 a2.lv).c) k)
abbrev znpp77 (k:Nat->V):V:=U (1+1<=9223372036854775807/\(1+1) * 160<=140737488355328) (z9 Nat (fun (x:Nat)=>1+1<=x) fun v0=>k v0)
abbrev znpp31 (k:V):V:=U (1 < 1+1) (U (1 < 1+1) k)
abbrev znpp88 (k:V):V:=U (0 < 1/\1 < 1+1) (znpp31 k)
abbrev znpp139 (k:V):V:=znpp31 (znpp31 k)
abbrev znpp144 (k:V):V:=U (1 < 1+1) (nN [(6,.lt2 0 1 0 1)] k)
abbrev znpp153 (k:V):V:=znpp139 (znpp31 k)
abbrev znpps1 (c:Cf) (a:Int) (y1:XPp) (v:Ev) (y3:Mm) (J1:Nat->Int->XPp->Prop):V:=znpp77 fun y4=>nN [(8,.lt2 0 1 0 1)] (znpp88 (znpp144 (znpp88 (znpp139 (znpp153 (U (1 < 1+1) (nN [qE ((quN c.W c.L c.C c.D c.H a y1.lv).b)] (zcf c v v.b y1.m y1 v.x (nN [qX (y1.m.acc v.n (O 1) (quN c.W c.L c.C c.D c.H a y1.lv).b (y1.m.val v.n (quN c.W c.L c.C c.D c.H a y1.lv).b))] (z9 Mm (fun (m':Mm)=>m'=y1.m.acc v.n (O 1) (quN c.W c.L c.C c.D c.H a y1.lv).b (y1.m.val v.n (quN c.W c.L c.C c.D c.H a y1.lv).b)) fun y5=>znpp153 (zbb v.x v.a v y3 y1 v.b y5 y1.m (U ((1<=1/\1 < 1+1)/\J1 8 y1.s (XPp.mk y1.s y3 y1.now y1.lv (O 0) y1.u (O 0) (y1.m.val v.n (quN c.W c.L c.C c.D c.H a y1.lv).b) (O 0) (O 0) y4)) (zbc v v.a y3 c v.b y5 y1 v.x (nN [qE a,qE y1.lv,qE y4,qE y4] (U (2<=1+1) (znpp65 c a y1 (znpp66 c a y1 (nN (qE a::znpp118 y1 (qE (y1.m.val v.n (quN c.W c.L c.C c.D c.H a y1.lv).b)::(1,.eqI 0 0)::zf6 c a y1 [])) (U (y1.m.val v.n (quX c a y1.lv).b=y1.m.val v.n (quN c.W c.L c.C c.D c.H a y1.lv).b) (nN [(1,.eqI 0 0)] zx))))))))))))))))))))
abbrev znpp60 (a0:Mm) (a1:Ev) (a2:Cf) (a3:Int) (a4:XPp) (k:Mm->V):V:=nN [qX (a0.acc a1.n (O 1) (quX a2 a3 a4.lv).b (a0.val a1.n (quX a2 a3 a4.lv).b))] (z9 Mm (fun (m':Mm)=>m'=a0.acc a1.n (O 1) (quX a2 a3 a4.lv).b (a0.val a1.n (quX a2 a3 a4.lv).b)) fun v0=>k v0)
theorem vPp1_eq (c:Cf) (v:Ev) (a b d:Int) (cf ln lc:Nat) (g:Nat->Int) (I:Nat×XPp->Prop) (J1 J2:Nat->Int->XPp->Prop):V.pr (.b (.b (.b (.f .z) .z) .z) .z) (vPpO 1 c v a b d cf ln lc g I J1 J2)=
 zbx I v.m v cf v.a c v.b (nN (qE v.x.n::zb1 v.b v v.m [qE a,qE cf,qE cf]) (zbz a I fun y0=>zj y0 (z9 XPp (fun (x:XPp)=>I (1,x)) fun y1=>zj (decide (y1.s < O 120)) (nN (zgq v v.a y1.m c v.b y1 v.x a (zdj y1 a c [])) (z9 Bool (fun (x:Bool)=>True) fun y2=>zj y2 (zb0 v v.a y1.m (nN ((6,.lt2 0 1 0 1)::qE ((quX c a y1.lv).b)::zcw v v.a y1.m []) (znpp60 y1.m v c a y1 fun y3=>nN ((7,.lt2 0 1 0 1)::(6,.lt 0 1)::(19,.lt2 0 1 0 1)::zcy c [qE a,qE y1.lv]) (zhl c (nN [(39,.lt2 0 1 0 1)] (U (1<=1/\y1.cf=y1.cf) (znpps1 c a y1 v y3 J1))))))) (U (∀ (x_2:Nat×XPp),okX 1 x_2.fst/\J1 (nxP 1 x_2.fst) y1.s x_2.snd->1<=x_2.fst/\x_2.fst < 2) (znpps0 J1 y1 v c a ln g J2 I)))) (U True zx)) zx)):=by kernel_rfl
abbrev znpp120 (l:LP):LP:=(6,.lt2 0 1 0 1)::(1,.lt2 0 1 0 2)::l
abbrev znpp148 (a0:XPp) (a1:Cf) (a2:Int) (l:LP):LP:=qE a0.ln::qE ((quX a1 a2 a0.ob).t)::qE ((quX a1 a2 a0.ob).b)::qE ((quX a1 a2 a0.ob).r)::qE ((quX a1 a2 a0.ob).c)::qE a2::qE (bmN a1.W a1.C a1.H a2)::l
abbrev znpp149 (a0:XPp) (a1:Cf) (a2:Int) (l:LP):LP:=qE a0.ob::znpp22 a0 a1 a2 l
abbrev za8 (a0:Ev) (a1:Rm) (a2:Mm) (a3:Cf) (a4:Rm) (a5:XPp) (a6:Rk) (a7:Int) (l:LP):LP:=zgq a0 a1 a2 a3 a4 a5 a6 a7 (zbr a5 l)
abbrev zdw (a0:Ev) (a1:Rm) (a2:Mm) (a3:Cf) (a4:Rm) (a5:XPp) (a6:Rk) (a7:Int) (l:LP):LP:=za8 a0 a1 a2 a3 a4 a5 a6 a7 (znpp148 a5 a3 a7 (znpp149 a5 a3 a7 l))
theorem vPp2_eq (c:Cf) (v:Ev) (a b d:Int) (cf ln lc:Nat) (g:Nat->Int) (I:Nat×XPp->Prop) (J1 J2:Nat->Int->XPp->Prop):V.pr (.b (.b (.b (.f .z) .z) .z) .z) (vPpO 2 c v a b d cf ln lc g I J1 J2)=
 zbx I v.m v cf v.a c v.b (nN (qE v.x.n::zb1 v.b v v.m [qE a,qE cf,qE cf]) (zbz a I fun y0=>zj y0 (z9 XPp (fun (x:XPp)=>I (2,x)) fun y1=>zj (decide (y1.s < O 120)) (nN (zdw v v.a y1.m c v.b y1 v.x a []) (z9 Bool (fun (x:Bool)=>True) fun y2=>zj y2 (zb0 v v.a y1.m (nN ((6,.lt2 0 1 0 1)::qE ((quX c a y1.lv).b)::zcw v v.a y1.m []) (znpp60 y1.m v c a y1 fun y3=>nN (znpp120 ((6,.lt 0 2)::(13,.lt2 0 1 0 1)::(6,.lt2 0 1 0 2)::zcy c [qE a,qE y1.lv])) (zhl c (nN [(39,.lt2 0 1 0 1)] (U (1<=2/\y1.cf=y1.cf) (znpps1 c a y1 v y3 J1))))))) (U (∀ (x_2:Nat×XPp),okX 2 x_2.fst/\J1 (nxP 2 x_2.fst) y1.s x_2.snd->1<=x_2.fst/\x_2.fst < 2) (znpps0 J1 y1 v c a ln g J2 I)))) (U True zx)) zx)):=by kernel_rfl
abbrev zdp (a0:XPp) (k:Bool->V):V:=nN [qE a0.x] (z9 Bool (fun (x:Bool)=>True) fun v0=>k v0)
abbrev zei (a0:Cf) (a1:Int) (a2:XPp) (l:LP):LP:=zf6 a0 a1 a2 (qE a1::l)
abbrev znpp53 (a0:XPp) (a1:Cf) (a2:Int) (l:LP):LP:=qE a0.ln::zei a1 a2 a0 l
abbrev zbu (a0:Ev) (a1:Rm) (a2:Mm) (a3:Cf) (a4:Rm) (a5:XPp) (a6:Rk) (a7:Int) (l:LP):LP:=za8 a0 a1 a2 a3 a4 a5 a6 a7 (znpp53 a5 a3 a7 l)
abbrev zf5 (a0:Cf) (a1:Int) (a2:XPp) (l:LP):LP:=qE (bmN a0.W a0.C a0.H a1)::qE a2.lv::l
abbrev zho (a0:Cf) (a1:Int) (a2:XPp) (l:LP):LP:=zf5 a0 a1 a2 (zf6 a0 a1 a2 l)
abbrev znpp33 (a0:Cf) (a1:Int) (a2:XPp) (l:LP):LP:=zf5 a0 a1 a2 (znpp21 a2 l)
abbrev znpp94 (a0:Cf) (a1:Int) (a2:XPp) (l:LP):LP:=znpp33 a0 a1 a2 (qE a2.co::zho a0 a1 a2 (qE a2.ln::l))
abbrev znpp140 (a0:Cf) (k:V):V:=U (okYn a0.W a0.L a0.C a0.T a0.D a0.H/\lQ a0=lQn a0.W a0.C a0.H) (nN [(10,.lt2 0 1 0 1)] k)
abbrev znpp154 (l:LP):LP:=(13,.lt2 0 1 0 1)::(3,.lt2 0 1 0 2)::l
theorem vPp3_eq (c:Cf) (v:Ev) (a b d:Int) (cf ln lc:Nat) (g:Nat->Int) (I:Nat×XPp->Prop) (J1 J2:Nat->Int->XPp->Prop):V.pr (.b (.b (.b (.b (.t (.f .z)) (.f (.f .z))) .z) .z) .z) (vPpO 3 c v a b d cf ln lc g I J1 J2)=
 zbx I v.m v cf v.a c v.b (nN (qE v.x.n::zb1 v.b v v.m [qE a,qE cf,qE cf]) (zbz a I fun y0=>zj y0 (z9 XPp (fun (x:XPp)=>I (3,x)) fun y1=>zj (decide (y1.s < O 120)) (nN (zbu v v.a y1.m c v.b y1 v.x a (znpp94 c a y1 [])) (zdp y1 fun y2=>zj y2 (zb0 v v.a y1.m (nN [(19,.lt2 0 1 0 1),qE c.W,qE c.L,qE c.C,qE c.T,qE c.D,qE c.H,qE (lS c),qE (lE c),qE (lB c),qE (lQ c),qE (lT c)] (znpp108 a c (nN (qE (bmN c.W c.C c.H a)::zcw v v.a y1.m []) (znpp32 y1.m v c a fun y3=>zj (y1.m.val v.n (bmN c.W c.C c.H a) == O 0) (nN (znpp120 ((6,.lt 0 2)::znpp120 ((3,.lt 0 2)::znpp154 (zcy c [qE a])))) (zhl c (nN [qE (bmN c.W c.C c.H a)] (zcf c v v.b y1.m y1 v.x (znpp32 y1.m v c a fun y4=>nN [(2,.lt2 0 1 0 2),(4,.lt 0 2)] (U ((y1.m.val v.n (bmN c.W c.C c.H a) == O 0)=true) (nN [(6,.lt2 0 1 0 1)] (znpp64 y1 (zbb v.x v.a v y3 y1 v.b y4 y1.m (nN [(6,.lt2 0 1 0 1)] (znpps3 v y3 y1 y4))))))))))) (znpp68 y1.m v c a (nN [(19,.lt2 0 1 0 1),qE c.W,qE c.L,qE c.C,qE c.T,qE c.D,qE c.H,qE (lS c),qE (lE c),qE (lB c),qE (lQ c),qE (lT c),qE a,qE (hiB (y1.m.val v.n (bmN c.W c.C c.H a)))] (znpp140 c (nN ((1,.lt2 0 1 0 2)::(6,.lt 0 2)::znpp120 ((3,.lt 0 2)::znpp154 (zcy c [qE a]))) (zhl c (nN [qE (bmN c.W c.C c.H a)] (zcf c v v.b y1.m y1 v.x (znpp32 y1.m v c a fun y4=>nN [(2,.lt2 0 1 0 2),(4,.lt 0 2)] (U ((y1.m.val v.n (bmN c.W c.C c.H a) == O 0)=false) (nN [(3,.lt 0 2)] (znpp68 y1.m v c a (nN [(6,.lt 0 2)] (zbb v.x v.a v y3 y1 v.b y4 y1.m (U ((1<=1/\1 < 1+1)/\J1 2 y1.s (XPp.mk y1.s y3 y1.now (hiB (y1.m.val v.n (bmN c.W c.C c.H a))) y1.lv (y1.m.val v.n (bmN c.W c.C c.H a)) y1.ln y1.x y1.z (O 0) y1.cf)) (zbc v v.a y3 c v.b y4 y1 v.x (nN (qE a::qE (hiB (y1.m.val v.n (bmN c.W c.C c.H a)))::znpp16 y1 (znpp53 y1 c a (zf5 c a y1 (qE (hiB (y1.m.val v.n (bmN c.W c.C c.H a)))::qE (y1.m.val v.n (bmN c.W c.C c.H a))::znpp20 y1 [])))) (znpps2 c a y1 v)))))))))))))))))))))) (U (∀ (x_2:Nat×XPp),okX 3 x_2.fst/\J1 (nxP 3 x_2.fst) y1.s x_2.snd->1<=x_2.fst/\x_2.fst < 2) (z9 Bool (fun (x:Bool)=>True) fun y3=>zj y3 (z9 XPp (fun (x_2:XPp)=>(1<=1/\1 < 1+1)/\J1 2 y1.s x_2) fun y4=>nN (zdw v v.a y4.m c v.b y4 v.x a []) (z9 Bool (fun (x:Bool)=>True) fun y5=>zj y5 (zj (decide (y1.s < (↑ln:Int))) (zck y1 ln (zj ((g (0+y1.s.toNat)).tmod (O 3) == O 1) (zbn y1 ln g v v.a y4.m c v.b y4 v.x fun y6=>U (J2 2 y1.s { y4 with s:=y1.s,m:=y6,co:=O 0 }) (nN (zdw v v.a y6 c v.b y4 v.x a []) zx)) (U (J2 2 y1.s { y4 with s:=y1.s,co:=O 0 }) (nN (zdw v v.a y4.m c v.b y4 v.x a []) zx)))) (U (J2 2 y1.s { y4 with s:=y1.s,co:=O 0 }) (nN (zdw v v.a y4.m c v.b y4 v.x a []) zx))) (z9 XPp (J2 2 y1.s) fun y6=>nN (zdw v v.a y6.m c v.b y6 v.x a []) (z9 Bool (fun (x:Bool)=>True) fun y7=>zj y7 (zj (decide (y1.s < (↑ln:Int))) (zcr y1 ln (zj ((g (0+y1.s.toNat)).tmod (O 13) == O 5) (nN [(3,.lt2 0 1 0 1)] (U (J2 2 y1.s { y6 with s:=y1.s,now:=i64.wrap (y6.now+O 1),co:=O 0 }) (nN (zch v v.a y6.m c v.b y6 (qE v.x.n::zds v.b v y6.m y6 (qE a::zbr y6 (znpp148 y6 c a (znpp149 y6 c a []))))) zx))) (U (J2 2 y1.s { y6 with s:=y1.s,co:=O 0 }) (nN (zdw v v.a y6.m c v.b y6 v.x a []) zx)))) (U (J2 2 y1.s { y6 with s:=y1.s,co:=O 0 }) (nN (zdw v v.a y6.m c v.b y6 v.x a []) zx))) (z9 XPp (J2 2 y1.s) fun y8=>zj (y1.s == O 2) (U (I (2,{ y8 with s:=i64.wrap (y1.s+O 1),co:=O 0 })) (ze9 y1 (nN (zdw v v.a y8.m c v.b y8 v.x a []) zx))) (U (I (2,{ y8 with s:=i64.wrap (y1.s+O 1),co:=O 0 })) (ze9 y1 (nN (zdw v v.a y8.m c v.b y8 v.x a []) zx)))))))) zx)))) (U True zx)) zx)):=by kernel_rfl
abbrev znpp46 (a0:Cf) (a1:Int) (a2:XPp) (l:LP):LP:=znpp33 a0 a1 a2 (zho a0 a1 a2 l)
abbrev znpps4 (v:Ev) (y6:XPp) (c:Cf) (a:Int):V:=nN (zch v v.a y6.m c v.b y6 (qE v.x.n::zds v.b v y6.m y6 (qE a::zfc y6 c a (qE a::znpp46 c a y6 [qE y6.x])))) zx
abbrev zb3 (a0:Ev) (a1:Rm) (a2:Mm) (a3:Cf) (a4:Rm) (a5:XPp) (a6:Rk) (a7:Int) (l:LP):LP:=znpp55 a0 a1 a2 a3 a4 a5 a6 a7 (znpp46 a3 a7 a5 l)
abbrev znpp75 (a0:Mm) (a1:Ev) (a2:Cf) (a3:Int) (a4:XPp) (k:Mm->V):V:=nN [qX (a0.acc a1.n (O 5) (bmN a2.W a2.C a2.H a3) (bits BinOp.and IntKind.u64 (a0.val a1.n (bmN a2.W a2.C a2.H a3)) (bits BinOp.xor IntKind.u64 (if IntKind.u64.signed=true then -O 1 else IntKind.u64.max) (bitM a4.lv))))] (z9 Mm (fun (m':Mm)=>m'=a0.acc a1.n (O 5) (bmN a2.W a2.C a2.H a3) (bits BinOp.and IntKind.u64 (a0.val a1.n (bmN a2.W a2.C a2.H a3)) (bits BinOp.xor IntKind.u64 (if IntKind.u64.signed=true then -O 1 else IntKind.u64.max) (bitM a4.lv)))) fun v0=>k v0)
abbrev znpp90 (a0:Cf) (a1:Int) (a2:XPp) (k:V):V:=nN [qE (bmN a0.W a0.C a0.H a1)] (U (bits BinOp.xor IntKind.u64 (if IntKind.u64.signed=true then -O 1 else IntKind.u64.max) (bitM a2.lv)=bits BinOp.xor IntKind.u64 (if IntKind.u64.signed=true then -O 1 else IntKind.u64.max) (bitM a2.lv)) k)
abbrev znpp102 (a0:Nat->Int->XPp->Prop) (a1 a2:XPp) (a3:Ev) (a4:Rm) (a5:Mm) (a6:Cf) (a7:Rm) (a8:Rk) (a9:Int) (k:V):V:=U (a0 5 a1.s { a2 with s:=a1.s,ob:=O 0,ln:=O 0,co:=O 0 }) (nN (zb3 a3 a4 a5 a6 a7 a2 a8 a9 []) k)
abbrev zhc (a0:XPp) (a1:Cf) (a2:Int) (l:LP):LP:=znpp21 a0 (zho a1 a2 a0 l)
abbrev znpp109 (a0:XPp) (a1:Cf) (a2:Int) (k:Bool->V):V:=nN (zhc a0 a1 a2 []) (z9 Bool (fun (x:Bool)=>True) fun v0=>k v0)
abbrev znpp115 (k:V):V:=U (0 < 1/\1 < 1+1) (U (0 < 1/\1 < 1+1) k)
abbrev znpp134 (a0:Nat×XPp->Prop) (a1 a2:XPp) (k:V):V:=U (a0 (5,{ a1 with s:=i64.wrap (a2.s+O 1),ob:=O 0,ln:=O 0,co:=O 0 })) (ze9 a2 k)
theorem vPp4_eq (c:Cf) (v:Ev) (a b d:Int) (cf ln lc:Nat) (g:Nat->Int) (I:Nat×XPp->Prop) (J1 J2:Nat->Int->XPp->Prop):V.pr (.b (.b (.b (.f .z) .z) .z) .z) (vPpO 4 c v a b d cf ln lc g I J1 J2)=
 zbx I v.m v cf v.a c v.b (nN (qE v.x.n::zb1 v.b v v.m [qE a,qE cf,qE cf]) (zbz a I fun y0=>zj y0 (z9 XPp (fun (x:XPp)=>I (4,x)) fun y1=>zj (decide (y1.s < O 120)) (nN (zbu v v.a y1.m c v.b y1 v.x a []) (znpp109 y1 c a fun y2=>zj y2 (zb0 v v.a y1.m (nN [qE y1.lv] (U True (nN [(6,.lt2 0 1 0 1)] (znpp90 c a y1 (nN (zcw v v.a y1.m []) (znpp75 y1.m v c a y1 fun y3=>nN (znpp120 ((6,.lt 0 2)::znpp154 (zcy c [qE a]))) (zhl c (nN ((3,.lt2 0 1 0 2)::(13,.lt2 0 1 0 1)::(6,.lt2 0 1 0 2)::zcy c [qE a,qE y1.lv]) (zhl c (nN [(39,.lt2 0 1 0 1)] (U (1<=2/\y1.cf=y1.cf) (znpp77 fun y4=>nN [(8,.lt2 0 1 0 1)] (znpp88 (znpp144 (znpp88 (znpp139 (znpp115 (znpp115 (znpp115 (nN [qE y1.lv] (U True (znpp90 c a y1 (nN ((1,.eqI 0 0)::zcy c []) (zhb v v.b y1.m y1 v.x (znpp75 y1.m v c a y1 fun y5=>znpp153 (zbb v.x v.a v y3 y1 v.b y5 y1.m (U ((1<=1/\1 < 1+1)/\J1 5 y1.s (XPp.mk y1.s y3 y1.now y1.lv (O 0) y1.u (O 0) (O 0) (O 0) (O 0) y4)) (zbc v v.a y3 c v.b y5 y1 v.x (nN [qE a,qE y1.lv,qE y4,qE y4] (U (2<=1+1) (znpp65 c a y1 (znpp66 c a y1 (nN (qE a::zf5 c a y1 (znpp118 y1 ((2,.eqI 0 0)::zho c a y1 [(1,.eqI 0 0)]))) zx)))))))))))))))))))))))))))))))))) (U (∀ (x_2:Nat×XPp),okX 4 x_2.fst/\J1 (nxP 4 x_2.fst) y1.s x_2.snd->1<=x_2.fst/\x_2.fst < 2) (z9 Bool (fun (x:Bool)=>True) fun y3=>zj y3 (z9 XPp (fun (x_2:XPp)=>(1<=1/\1 < 1+1)/\J1 5 y1.s x_2) fun y4=>nN (zb3 v v.a y4.m c v.b y4 v.x a []) (zdp y4 fun y5=>zj y5 (zj (decide (y1.s < (↑ln:Int))) (zck y1 ln (zj ((g (0+y1.s.toNat)).tmod (O 3) == O 1) (zbn y1 ln g v v.a y4.m c v.b y4 v.x fun y6=>U (J2 5 y1.s { y4 with s:=y1.s,m:=y6,ob:=O 0,ln:=O 0,co:=O 0 }) (nN (zb3 v v.a y6 c v.b y4 v.x a [qE y4.x]) zx)) (znpp102 J2 y1 y4 v v.a y4.m c v.b v.x a (nN [qE y4.x] zx)))) (znpp102 J2 y1 y4 v v.a y4.m c v.b v.x a (nN [qE y4.x] zx))) (z9 XPp (J2 5 y1.s) fun y6=>nN (zb3 v v.a y6.m c v.b y6 v.x a []) (zdp y6 fun y7=>zj y7 (zj (decide (y1.s < (↑ln:Int))) (zcr y1 ln (zj ((g (0+y1.s.toNat)).tmod (O 13) == O 5) (nN [(3,.lt2 0 1 0 1)] (U (J2 5 y1.s { y6 with s:=y1.s,now:=i64.wrap (y6.now+O 1),ob:=O 0,ln:=O 0,co:=O 0 }) (znpps4 v y6 c a))) (znpp102 J2 y1 y6 v v.a y6.m c v.b v.x a (nN [qE y6.x] zx)))) (znpp102 J2 y1 y6 v v.a y6.m c v.b v.x a (nN [qE y6.x] zx))) (z9 XPp (J2 5 y1.s) fun y8=>zj (y1.s == O 2) (znpp134 I y8 y1 (nN (zb3 v v.a y8.m c v.b y8 v.x a [qE y8.x]) zx)) (znpp134 I y8 y1 (nN (zb3 v v.a y8.m c v.b y8 v.x a [qE y8.x]) zx))))))) zx)))) (U True zx)) zx)):=by kernel_rfl
abbrev znpp103 (a0:Nat->Int->XPp->Prop) (a1 a2:XPp) (a3:Ev) (a4:Rm) (a5:Mm) (a6:Cf) (a7:Rm) (a8:Rk) (a9:Int) (k:V):V:=U (a0 6 a1.s { a2 with s:=a1.s,ob:=O 0,ln:=O 0,co:=O 0 }) (nN (zb3 a3 a4 a5 a6 a7 a2 a8 a9 []) k)
abbrev znpp34 (l:LP):LP:=(6,.lt2 0 1 0 1)::(1,.lt2 0 1 1 2)::l
abbrev znpp83 (l:LP):LP:=(3,.lt 1 2)::znpp34 l
abbrev znpp116 (l:LP):LP:=(1,.lt2 0 1 1 2)::znpp83 l
abbrev znpp135 (a0:Nat×XPp->Prop) (a1 a2:XPp) (k:V):V:=U (a0 (6,{ a1 with s:=i64.wrap (a2.s+O 1),ob:=O 0,ln:=O 0,co:=O 0 })) (ze9 a2 k)
theorem vPp5_eq (c:Cf) (v:Ev) (a b d:Int) (cf ln lc:Nat) (g:Nat->Int) (I:Nat×XPp->Prop) (J1 J2:Nat->Int->XPp->Prop):V.pr (.b (.b (.b (.f .z) .z) .z) .z) (vPpO 5 c v a b d cf ln lc g I J1 J2)=
 zbx I v.m v cf v.a c v.b (nN (qE v.x.n::zb1 v.b v v.m [qE a,qE cf,qE cf]) (zbz a I fun y0=>zj y0 (z9 XPp (fun (x:XPp)=>I (5,x)) fun y1=>zj (decide (y1.s < O 120)) (nN (zb3 v v.a y1.m c v.b y1 v.x a []) (zdp y1 fun y2=>zj y2 (zb0 v v.a y1.m (nN [qE y1.lv] (U True (nN ((7,.lt2 0 1 0 1)::qE ((quX c a y1.lv).b)::zcw v v.a y1.m []) (znpp60 y1.m v c a y1 fun y3=>nN ((8,.lt2 0 1 0 1)::znpp116 [(10,.lt 1 2),qE ((quX c a y1.lv).b)]) (zcf c v v.b y1.m y1 v.x (znpp60 y1.m v c a y1 fun y4=>nN [(9,.lt 1 2)] (zbb v.x v.a v y3 y1 v.b y4 y1.m (U ((1<=1/\1 < 1+1)/\J1 6 y1.s (XPp.mk y1.s y3 y1.now y1.lv (O 0) y1.u (O 0) (y1.m.val v.n (quX c a y1.lv).b) y1.z (O 0) y1.cf)) (zbc v v.a y3 c v.b y4 y1 v.x (nN (qE a::zfc y1 c a (qE a::zf5 c a y1 (znpp118 y1 (qE (y1.m.val v.n (quX c a y1.lv).b)::qE y1.z::zho c a y1 [qE (y1.m.val v.n (quX c a y1.lv).b)])))) zx))))))))))) (U (∀ (x_2:Nat×XPp),okX 5 x_2.fst/\J1 (nxP 5 x_2.fst) y1.s x_2.snd->1<=x_2.fst/\x_2.fst < 2) (z9 Bool (fun (x:Bool)=>True) fun y3=>zj y3 (z9 XPp (fun (x_2:XPp)=>(1<=1/\1 < 1+1)/\J1 6 y1.s x_2) fun y4=>nN (zb3 v v.a y4.m c v.b y4 v.x a []) (zdp y4 fun y5=>zj y5 (zj (decide (y1.s < (↑ln:Int))) (zck y1 ln (zj ((g (0+y1.s.toNat)).tmod (O 3) == O 1) (zbn y1 ln g v v.a y4.m c v.b y4 v.x fun y6=>U (J2 6 y1.s { y4 with s:=y1.s,m:=y6,ob:=O 0,ln:=O 0,co:=O 0 }) (nN (zb3 v v.a y6 c v.b y4 v.x a [qE y4.x]) zx)) (znpp103 J2 y1 y4 v v.a y4.m c v.b v.x a (nN [qE y4.x] zx)))) (znpp103 J2 y1 y4 v v.a y4.m c v.b v.x a (nN [qE y4.x] zx))) (z9 XPp (J2 6 y1.s) fun y6=>nN (zb3 v v.a y6.m c v.b y6 v.x a []) (zdp y6 fun y7=>zj y7 (zj (decide (y1.s < (↑ln:Int))) (zcr y1 ln (zj ((g (0+y1.s.toNat)).tmod (O 13) == O 5) (nN [(3,.lt2 0 1 0 1)] (U (J2 6 y1.s { y6 with s:=y1.s,now:=i64.wrap (y6.now+O 1),ob:=O 0,ln:=O 0,co:=O 0 }) (znpps4 v y6 c a))) (znpp103 J2 y1 y6 v v.a y6.m c v.b v.x a (nN [qE y6.x] zx)))) (znpp103 J2 y1 y6 v v.a y6.m c v.b v.x a (nN [qE y6.x] zx))) (z9 XPp (J2 6 y1.s) fun y8=>zj (y1.s == O 2) (znpp135 I y8 y1 (nN (zb3 v v.a y8.m c v.b y8 v.x a [qE y8.x]) zx)) (znpp135 I y8 y1 (nN (zb3 v v.a y8.m c v.b y8 v.x a [qE y8.x]) zx))))))) zx)))) (U True zx)) zx)):=by kernel_rfl
abbrev zhf (a0:Nat->Int->XPp->Prop) (a1 a2:XPp) (a3:Ev) (a4:Rm) (a5:Mm) (a6:Cf) (a7:Rm) (a8:Rk) (a9:Int) (k:V):V:=U (a0 3 a1.s { a2 with s:=a1.s,ob:=O 0 }) (nN (zbu a3 a4 a5 a6 a7 a2 a8 a9 []) k)
abbrev znpp81 (a0:Nat×XPp->Prop) (a1 a2:XPp) (k:V):V:=U (a0 (3,{ a1 with s:=i64.wrap (a2.s+O 1),ob:=O 0 })) (ze9 a2 k)
abbrev znpp104 (a0:Nat->Int->XPp->Prop) (a1 a2:XPp) (a3:Ev) (a4:Rm) (a5:Mm) (a6:Cf) (a7:Rm) (a8:Rk) (a9:Int) (k:V):V:=U (a0 7 a1.s { a2 with s:=a1.s,ob:=O 0,ln:=O 0,co:=O 0 }) (nN (zb3 a3 a4 a5 a6 a7 a2 a8 a9 []) k)
abbrev zfl (l:LP):LP:=(3,.lt 1 2)::(6,.lt2 0 1 1 2)::l
abbrev znpp122 (l:LP):LP:=(8,.lt2 0 1 0 1)::(1,.lt2 0 1 0 2)::(4,.lt2 0 1 0 1)::l
abbrev zd9 (l:LP):LP:=znpp34 (znpp83 l)
abbrev zby (a0:Cf) (a1:Int) (a2:XPp) (l:LP):LP:=znpp94 a0 a1 a2 (qE a2.x::l)
abbrev znpp136 (a0:Nat×XPp->Prop) (a1 a2:XPp) (k:V):V:=U (a0 (7,{ a1 with s:=i64.wrap (a2.s+O 1),ob:=O 0,ln:=O 0,co:=O 0 })) (ze9 a2 k)
abbrev znpp145 (l:LP):LP:=(12,.lt2 0 1 0 1)::znpp116 l
abbrev zhi (a0:XPp) (a1:Mm) (a2:Ev) (a3:Cf) (a4:Int) (l:LP):LP:=qE a0.x::qE (a1.val a2.n (quX a3 a4 a0.lv).t)::l
abbrev zdy (a0:XPp) (a1:Mm) (a2:Ev) (a3:Cf) (a4:Int) (l:LP):LP:=znpp118 a0 (zhi a0 a1 a2 a3 a4 l)
abbrev znpp152 (a0:Nat->Int->XPp->Prop) (a1 a2:XPp) (k:V):V:=nN [(3,.lt2 0 1 0 1)] (U (a0 3 a1.s { a2 with s:=a1.s,now:=i64.wrap (a2.now+O 1),ob:=O 0 }) k)
abbrev zfi (a0:Mm) (a1:Ev) (a2:Cf) (a3:Int) (a4:XPp) (k:Mm->V):V:=nN [qX (a0.acc a1.n (O 1) (quX a2 a3 a4.lv).t (a0.val a1.n (quX a2 a3 a4.lv).t))] (z9 Mm (fun (m':Mm)=>m'=a0.acc a1.n (O 1) (quX a2 a3 a4.lv).t (a0.val a1.n (quX a2 a3 a4.lv).t)) fun v0=>k v0)
abbrev znpp40 (a0:XPp) (k:V):V:=nN [(6,.lt2 0 1 0 1)] (U (O 0<=O 0/\O 0<=O 1/\O 1<=(↑a0.cf:Int)) k)
theorem vPp6_eq (c:Cf) (v:Ev) (a b d:Int) (cf ln lc:Nat) (g:Nat->Int) (I:Nat×XPp->Prop) (J1 J2:Nat->Int->XPp->Prop):V.pr (.b (.b (.b (.b (.t (.f .z)) (.f (.f .z))) .z) .z) .z) (vPpO 6 c v a b d cf ln lc g I J1 J2)=
 zbx I v.m v cf v.a c v.b (nN (qE v.x.n::zb1 v.b v v.m [qE a,qE cf,qE cf]) (zbz a I fun y0=>zj y0 (z9 XPp (fun (x:XPp)=>I (6,x)) fun y1=>zj (decide (y1.s < O 120)) (nN (zb3 v v.a y1.m c v.b y1 v.x a []) (zdp y1 fun y2=>zj y2 (zb0 v v.a y1.m (nN [qE y1.lv] (U True (nN ((7,.lt2 0 1 0 1)::qE ((quX c a y1.lv).t)::zcw v v.a y1.m []) (zfi y1.m v c a y1 fun y3=>zj (decide (i64.wrap (u64.wrap (y1.x - y1.m.val v.n (quX c a y1.lv).t))<=O 0)) (nN (znpp145 [(10,.lt 1 2),qE ((quX c a y1.lv).t)]) (zcf c v v.b y1.m y1 v.x (zfi y1.m v c a y1 fun y4=>nN (zfl []) (U (decide (i64.wrap (u64.wrap (y1.x - y1.m.val v.n (quX c a y1.lv).t))<=O 0)=true) (znpp40 y1 (nN (znpp122 [(9,.lt 0 2)]) (zbb v.x v.a v y3 y1 v.b y4 y1.m (U ((1<=2/\2 < 1+2)/\J1 3 y1.s (XPp.mk y1.s y3 y1.now y1.lv (O 0) y1.u (O 3) y1.x (y1.m.val v.n (quX c a y1.lv).t) (O 2) y1.cf)) (zbc v v.a y3 c v.b y4 y1 v.x (nN (qE a::zbr y1 ((1,.eqI 3 3)::zei c a y1 (zf5 c a y1 (zdy y1 y1.m v c a ((1,.eqI 2 2)::zho c a y1 [(1,.eqI 3 3),qE y1.x]))))) zx)))))))))) (nN (zd9 [(10,.lt 1 2),qE ((quX c a y1.lv).t)]) (zcf c v v.b y1.m y1 v.x (zfi y1.m v c a y1 fun y4=>nN (zfl []) (U (decide (i64.wrap (u64.wrap (y1.x - y1.m.val v.n (quX c a y1.lv).t))<=O 0)=false) (nN [(6,.lt 1 2)] (zbb v.x v.a v y3 y1 v.b y4 y1.m (U ((1<=1/\1 < 1+2)/\J1 7 y1.s (XPp.mk y1.s y3 y1.now y1.lv (O 0) y1.u (O 0) y1.x (y1.m.val v.n (quX c a y1.lv).t) (O 0) y1.cf)) (zbc v v.a y3 c v.b y4 y1 v.x (nN (qE a::zfc y1 c a (qE a::zf5 c a y1 (zdy y1 y1.m v c a (zho c a y1 [qE y1.x])))) zx)))))))))))))) (U (∀ (x_2:Nat×XPp),okX 6 x_2.fst/\J1 (nxP 6 x_2.fst) y1.s x_2.snd->1<=x_2.fst/\x_2.fst < 3) (z9 Bool (fun (x:Bool)=>True) fun y3=>zj y3 (z9 XPp (fun (x_2:XPp)=>(1<=1/\1 < 1+2)/\J1 7 y1.s x_2) fun y4=>nN (zb3 v v.a y4.m c v.b y4 v.x a []) (zdp y4 fun y5=>zj y5 (zj (decide (y1.s < (↑ln:Int))) (zck y1 ln (zj ((g (0+y1.s.toNat)).tmod (O 3) == O 1) (zbn y1 ln g v v.a y4.m c v.b y4 v.x fun y6=>U (J2 7 y1.s { y4 with s:=y1.s,m:=y6,ob:=O 0,ln:=O 0,co:=O 0 }) (nN (zb3 v v.a y6 c v.b y4 v.x a [qE y4.x]) zx)) (znpp104 J2 y1 y4 v v.a y4.m c v.b v.x a (nN [qE y4.x] zx)))) (znpp104 J2 y1 y4 v v.a y4.m c v.b v.x a (nN [qE y4.x] zx))) (z9 XPp (J2 7 y1.s) fun y6=>nN (zb3 v v.a y6.m c v.b y6 v.x a []) (zdp y6 fun y7=>zj y7 (zj (decide (y1.s < (↑ln:Int))) (zcr y1 ln (zj ((g (0+y1.s.toNat)).tmod (O 13) == O 5) (nN [(3,.lt2 0 1 0 1)] (U (J2 7 y1.s { y6 with s:=y1.s,now:=i64.wrap (y6.now+O 1),ob:=O 0,ln:=O 0,co:=O 0 }) (znpps4 v y6 c a))) (znpp104 J2 y1 y6 v v.a y6.m c v.b v.x a (nN [qE y6.x] zx)))) (znpp104 J2 y1 y6 v v.a y6.m c v.b v.x a (nN [qE y6.x] zx))) (z9 XPp (J2 7 y1.s) fun y8=>zj (y1.s == O 2) (znpp136 I y8 y1 (nN (zb3 v v.a y8.m c v.b y8 v.x a [qE y8.x]) zx)) (znpp136 I y8 y1 (nN (zb3 v v.a y8.m c v.b y8 v.x a [qE y8.x]) zx))))))) (z9 Bool (fun (x:Bool)=>True) fun y4=>zj y4 (z9 XPp (fun (x_2:XPp)=>(1<=2/\2 < 1+2)/\J1 3 y1.s x_2) fun y5=>nN (zbu v v.a y5.m c v.b y5 v.x a (znpp94 c a y5 [])) (zdp y5 fun y6=>zj y6 (zj (decide (y1.s < (↑ln:Int))) (zck y1 ln (zj ((g (0+y1.s.toNat)).tmod (O 3) == O 1) (zbn y1 ln g v v.a y5.m c v.b y5 v.x fun y7=>U (J2 3 y1.s { y5 with s:=y1.s,m:=y7,ob:=O 0 }) (nN (zbu v v.a y7 c v.b y5 v.x a (zby c a y5 [])) zx)) (zhf J2 y1 y5 v v.a y5.m c v.b v.x a (nN (zby c a y5 []) zx)))) (zhf J2 y1 y5 v v.a y5.m c v.b v.x a (nN (zby c a y5 []) zx))) (z9 XPp (J2 3 y1.s) fun y7=>nN (zbu v v.a y7.m c v.b y7 v.x a (znpp94 c a y7 [])) (zdp y7 fun y8=>zj y8 (zj (decide (y1.s < (↑ln:Int))) (zcr y1 ln (zj ((g (0+y1.s.toNat)).tmod (O 13) == O 5) (znpp152 J2 y1 y7 (nN (zch v v.a y7.m c v.b y7 (qE v.x.n::zds v.b v y7.m y7 (qE a::zbr y7 (znpp53 y7 c a (zby c a y7 []))))) zx)) (zhf J2 y1 y7 v v.a y7.m c v.b v.x a (nN (zby c a y7 []) zx)))) (zhf J2 y1 y7 v v.a y7.m c v.b v.x a (nN (zby c a y7 []) zx))) (z9 XPp (J2 3 y1.s) fun y9=>zj (y1.s == O 2) (znpp81 I y9 y1 (nN (zbu v v.a y9.m c v.b y9 v.x a (zby c a y9 [])) zx)) (znpp81 I y9 y1 (nN (zbu v v.a y9.m c v.b y9 v.x a (zby c a y9 [])) zx))))))) zx))))) (U True zx)) zx)):=by kernel_rfl
theorem vPp7_eq (c:Cf) (v:Ev) (a b d:Int) (cf ln lc:Nat) (g:Nat->Int) (I:Nat×XPp->Prop) (J1 J2:Nat->Int->XPp->Prop):V.pr (.b (.b (.b (.f .z) .z) .z) .z) (vPpO 7 c v a b d cf ln lc g I J1 J2)=
 zbx I v.m v cf v.a c v.b (nN (qE v.x.n::zb1 v.b v v.m [qE a,qE cf,qE cf]) (zbz a I fun y0=>zj y0 (z9 XPp (fun (x:XPp)=>I (7,x)) fun y1=>zj (decide (y1.s < O 120)) (nN (zb3 v v.a y1.m c v.b y1 v.x a []) (zdp y1 fun y2=>zj y2 (zb0 v v.a y1.m (nN [qE y1.lv] (U True (nN ((6,.lt2 0 1 0 1)::qE (bmN c.W c.C c.H a)::qE (bitM y1.lv)::zcw v v.a y1.m [qX (y1.m.acc v.n (O 4) (bmN c.W c.C c.H a) (bits BinOp.or IntKind.u64 (y1.m.val v.n (bmN c.W c.C c.H a)) (bitM y1.lv)))]) (z9 Mm (fun (m':Mm)=>m'=y1.m.acc v.n (O 4) (bmN c.W c.C c.H a) (bits BinOp.or IntKind.u64 (y1.m.val v.n (bmN c.W c.C c.H a)) (bitM y1.lv))) fun y3=>nN (znpp145 [(6,.lt 1 2),(6,.lt2 0 1 1 2),qE y1.lv]) (U True (nN (qE (bmN c.W c.C c.H a)::qE (bitM y1.lv)::(1,.eqI 0 0)::zcy c []) (zhb v v.b y1.m y1 v.x (nN [qX (y1.m.acc v.n (O 4) (bmN c.W c.C c.H a) (bits BinOp.or IntKind.u64 (y1.m.val v.n (bmN c.W c.C c.H a)) (bitM y1.lv)))] (z9 Mm (fun (m':Mm)=>m'=y1.m.acc v.n (O 4) (bmN c.W c.C c.H a) (bits BinOp.or IntKind.u64 (y1.m.val v.n (bmN c.W c.C c.H a)) (bitM y1.lv))) fun y4=>znpp40 y1 (nN (znpp122 [(9,.lt 0 2)]) (zbb v.x v.a v y3 y1 v.b y4 y1.m (U ((1<=1/\1 < 1+1)/\J1 3 y1.s { y1 with m:=y3,ob:=O 0,ln:=O 4,co:=O 1 }) (zbc v v.a y3 c v.b y4 y1 v.x (nN (qE a::zbr y1 ((1,.eqI 4 4)::zei c a y1 (znpp33 c a y1 ((1,.eqI 1 1)::zho c a y1 [(1,.eqI 4 4),qE y1.x])))) zx))))))))))))))) (U (∀ (x_2:Nat×XPp),okX 7 x_2.fst/\J1 (nxP 7 x_2.fst) y1.s x_2.snd->1<=x_2.fst/\x_2.fst < 2) (z9 Bool (fun (x:Bool)=>True) fun y3=>zj y3 (z9 XPp (fun (x_2:XPp)=>(1<=1/\1 < 1+1)/\J1 3 y1.s x_2) fun y4=>nN (zbu v v.a y4.m c v.b y4 v.x a (znpp94 c a y4 [])) (zdp y4 fun y5=>zj y5 (zj (decide (y1.s < (↑ln:Int))) (zck y1 ln (zj ((g (0+y1.s.toNat)).tmod (O 3) == O 1) (zbn y1 ln g v v.a y4.m c v.b y4 v.x fun y6=>U (J2 3 y1.s { y4 with s:=y1.s,m:=y6,ob:=O 0 }) (nN (zbu v v.a y6 c v.b y4 v.x a (zby c a y4 [])) zx)) (zhf J2 y1 y4 v v.a y4.m c v.b v.x a (nN (zby c a y4 []) zx)))) (zhf J2 y1 y4 v v.a y4.m c v.b v.x a (nN (zby c a y4 []) zx))) (z9 XPp (J2 3 y1.s) fun y6=>nN (zbu v v.a y6.m c v.b y6 v.x a (znpp94 c a y6 [])) (zdp y6 fun y7=>zj y7 (zj (decide (y1.s < (↑ln:Int))) (zcr y1 ln (zj ((g (0+y1.s.toNat)).tmod (O 13) == O 5) (znpp152 J2 y1 y6 (nN (zch v v.a y6.m c v.b y6 (qE v.x.n::zds v.b v y6.m y6 (qE a::zbr y6 (znpp53 y6 c a (zby c a y6 []))))) zx)) (zhf J2 y1 y6 v v.a y6.m c v.b v.x a (nN (zby c a y6 []) zx)))) (zhf J2 y1 y6 v v.a y6.m c v.b v.x a (nN (zby c a y6 []) zx))) (z9 XPp (J2 3 y1.s) fun y8=>zj (y1.s == O 2) (znpp81 I y8 y1 (nN (zbu v v.a y8.m c v.b y8 v.x a (zby c a y8 [])) zx)) (znpp81 I y8 y1 (nN (zbu v v.a y8.m c v.b y8 v.x a (zby c a y8 [])) zx))))))) zx)))) (U True zx)) zx)):=by kernel_rfl
abbrev znpps5 (v:Ev) (y6:XPp) (c:Cf) (a:Int):V:=nN (zch v v.a y6.m c v.b y6 (qE v.x.n::zds v.b v y6.m y6 (qE a::zfc y6 c a (qE a::ze0 y6 c a [])))) zx
abbrev zhd (a0:Nat->Int->XPp->Prop) (a1 a2:XPp) (a3:Ev) (a4:Rm) (a5:Mm) (a6:Cf) (a7:Rm) (a8:Rk) (a9:Int) (k:V):V:=U (a0 4 a1.s { a2 with s:=a1.s,ob:=O 0,co:=O 0 }) (nN (za8 a3 a4 a5 a6 a7 a2 a8 a9 []) k)
abbrev znpp69 (a0:Nat×XPp->Prop) (a1 a2:XPp) (k:V):V:=U (a0 (4,{ a1 with s:=i64.wrap (a2.s+O 1),ob:=O 0,co:=O 0 })) (ze9 a2 k)
abbrev znpp105 (a0:Nat->Int->XPp->Prop) (a1 a2:XPp) (a3:Ev) (a4:Rm) (a5:Mm) (a6:Cf) (a7:Rm) (a8:Rk) (a9:Int) (k:V):V:=U (a0 9 a1.s { a2 with s:=a1.s,ob:=O 0,ln:=O 0,co:=O 0 }) (nN (zcd a3 a4 a5 a6 a7 a2 a8 a9 []) k)
abbrev zdz (a0:XPp) (a1:Cf) (a2:Int) (l:LP):LP:=znpp53 a0 a1 a2 (zhc a0 a1 a2 l)
abbrev znpp137 (a0:Nat×XPp->Prop) (a1 a2:XPp) (k:V):V:=U (a0 (9,{ a1 with s:=i64.wrap (a2.s+O 1),ob:=O 0,ln:=O 0,co:=O 0 })) (ze9 a2 k)
abbrev znpp143 (a0:Nat->Int->XPp->Prop) (a1 a2:XPp) (k:V):V:=nN [(3,.lt2 0 1 0 1)] (U (a0 4 a1.s { a2 with s:=a1.s,now:=i64.wrap (a2.now+O 1),ob:=O 0,co:=O 0 }) k)
theorem vPp8_eq (c:Cf) (v:Ev) (a b d:Int) (cf ln lc:Nat) (g:Nat->Int) (I:Nat×XPp->Prop) (J1 J2:Nat->Int->XPp->Prop):V.pr (.b (.b (.b (.b (.t (.f .z)) (.f (.f .z))) .z) .z) .z) (vPpO 8 c v a b d cf ln lc g I J1 J2)=
 zbx I v.m v cf v.a c v.b (nN (qE v.x.n::zb1 v.b v v.m [qE a,qE cf,qE cf]) (zbz a I fun y0=>zj y0 (z9 XPp (fun (x:XPp)=>I (8,x)) fun y1=>zj (decide (y1.s < O 120)) (zde v v.a y1.m c v.b y1 v.x a fun y2=>zj y2 (zb0 v v.a y1.m (nN ((6,.lt2 0 1 0 1)::qE ((quX c a y1.lv).t)::zcw v v.a y1.m []) (zfi y1.m v c a y1 fun y3=>nN [(6,.lt2 0 1 0 1)] (zj (decide (i64.wrap (u64.wrap (y1.x - y1.m.val v.n (quX c a y1.lv).t))<=O 0)) (nN [(22,.lt2 0 1 0 1),qE c.W,qE c.L,qE c.C,qE c.T,qE c.D,qE c.H,qE (lS c),qE (lE c),qE (lB c),qE (lQ c),qE (lT c)] (znpp108 a c (nN [(22,.lt2 0 1 0 1),qE c.W,qE c.L,qE c.C,qE c.T,qE c.D,qE c.H,qE (lS c),qE (lE c),qE (lB c),qE (lQ c),qE (lT c),qE a,qE y1.lv] (znpp140 c (nN (znpp116 [(13,.lt 1 2),qE ((quX c a y1.lv).t)]) (zcf c v v.b y1.m y1 v.x (zfi y1.m v c a y1 fun y4=>nN (zfl []) (U (decide (i64.wrap (u64.wrap (y1.x - y1.m.val v.n (quX c a y1.lv).t))<=O 0)=true) (znpp40 y1 (nN (znpp122 [(9,.lt 0 2)]) (zbb v.x v.a v y3 y1 v.b y4 y1.m (U ((1<=2/\2 < 1+2)/\J1 4 y1.s (XPp.mk y1.s y3 y1.now y1.lv (O 0) y1.u (O 2) y1.x (y1.m.val v.n (quX c a y1.lv).t) (O 0) y1.cf)) (zbc v v.a y3 c v.b y4 y1 v.x (nN (qE a::zbr y1 ((1,.eqI 2 2)::zei c a y1 (zdy y1 y1.m v c a (zf5 c a y1 [])))) (znpp65 c a y1 (znpp66 c a y1 zx)))))))))))))))) (nN (zd9 [(13,.lt 1 2),qE ((quX c a y1.lv).t)]) (zcf c v v.b y1.m y1 v.x (zfi y1.m v c a y1 fun y4=>nN (zfl []) (U (decide (i64.wrap (u64.wrap (y1.x - y1.m.val v.n (quX c a y1.lv).t))<=O 0)=false) (nN [(3,.lt 1 2)] (zbb v.x v.a v y3 y1 v.b y4 y1.m (U ((1<=1/\1 < 1+2)/\J1 9 y1.s (XPp.mk y1.s y3 y1.now y1.lv (O 0) y1.u (O 0) y1.x (y1.m.val v.n (quX c a y1.lv).t) (O 0) y1.cf)) (zbc v v.a y3 c v.b y4 y1 v.x (nN (qE a::zfc y1 c a (qE a::zdy y1 y1.m v c a (zf6 c a y1 (zhi y1 y1.m v c a [])))) zx))))))))))))) (U (∀ (x_2:Nat×XPp),okX 8 x_2.fst/\J1 (nxP 8 x_2.fst) y1.s x_2.snd->1<=x_2.fst/\x_2.fst < 3) (z9 Bool (fun (x:Bool)=>True) fun y3=>zj y3 (z9 XPp (fun (x_2:XPp)=>(1<=1/\1 < 1+2)/\J1 9 y1.s x_2) fun y4=>zde v v.a y4.m c v.b y4 v.x a fun y5=>zj y5 (zj (decide (y1.s < (↑ln:Int))) (zck y1 ln (zj ((g (0+y1.s.toNat)).tmod (O 3) == O 1) (zbn y1 ln g v v.a y4.m c v.b y4 v.x fun y6=>U (J2 9 y1.s { y4 with s:=y1.s,m:=y6,ob:=O 0,ln:=O 0,co:=O 0 }) (nN (zcd v v.a y6 c v.b y4 v.x a []) zx)) (znpp105 J2 y1 y4 v v.a y4.m c v.b v.x a zx))) (znpp105 J2 y1 y4 v v.a y4.m c v.b v.x a zx)) (z9 XPp (J2 9 y1.s) fun y6=>zde v v.a y6.m c v.b y6 v.x a fun y7=>zj y7 (zj (decide (y1.s < (↑ln:Int))) (zcr y1 ln (zj ((g (0+y1.s.toNat)).tmod (O 13) == O 5) (nN [(3,.lt2 0 1 0 1)] (U (J2 9 y1.s { y6 with s:=y1.s,now:=i64.wrap (y6.now+O 1),ob:=O 0,ln:=O 0,co:=O 0 }) (znpps5 v y6 c a))) (znpp105 J2 y1 y6 v v.a y6.m c v.b v.x a zx))) (znpp105 J2 y1 y6 v v.a y6.m c v.b v.x a zx)) (z9 XPp (J2 9 y1.s) fun y8=>zj (y1.s == O 2) (znpp137 I y8 y1 (nN (zcd v v.a y8.m c v.b y8 v.x a []) zx)) (znpp137 I y8 y1 (nN (zcd v v.a y8.m c v.b y8 v.x a []) zx))))) (z9 Bool (fun (x:Bool)=>True) fun y4=>zj y4 (z9 XPp (fun (x_2:XPp)=>(1<=2/\2 < 1+2)/\J1 4 y1.s x_2) fun y5=>nN (zbu v v.a y5.m c v.b y5 v.x a []) (znpp109 y5 c a fun y6=>zj y6 (zj (decide (y1.s < (↑ln:Int))) (zck y1 ln (zj ((g (0+y1.s.toNat)).tmod (O 3) == O 1) (zbn y1 ln g v v.a y5.m c v.b y5 v.x fun y7=>U (J2 4 y1.s { y5 with s:=y1.s,m:=y7,ob:=O 0,co:=O 0 }) (nN (zbu v v.a y7 c v.b y5 v.x a (zhc y5 c a [])) zx)) (zhd J2 y1 y5 v v.a y5.m c v.b v.x a (nN (zdz y5 c a []) zx)))) (zhd J2 y1 y5 v v.a y5.m c v.b v.x a (nN (zdz y5 c a []) zx))) (z9 XPp (J2 4 y1.s) fun y7=>nN (zbu v v.a y7.m c v.b y7 v.x a []) (znpp109 y7 c a fun y8=>zj y8 (zj (decide (y1.s < (↑ln:Int))) (zcr y1 ln (zj ((g (0+y1.s.toNat)).tmod (O 13) == O 5) (znpp143 J2 y1 y7 (nN (zch v v.a y7.m c v.b y7 (qE v.x.n::zds v.b v y7.m y7 (qE a::zbr y7 (zdz y7 c a [])))) zx)) (zhd J2 y1 y7 v v.a y7.m c v.b v.x a (nN (zdz y7 c a []) zx)))) (zhd J2 y1 y7 v v.a y7.m c v.b v.x a (nN (zdz y7 c a []) zx))) (z9 XPp (J2 4 y1.s) fun y9=>zj (y1.s == O 2) (znpp69 I y9 y1 (nN (zbu v v.a y9.m c v.b y9 v.x a (zhc y9 c a [])) zx)) (znpp69 I y9 y1 (nN (zbu v v.a y9.m c v.b y9 v.x a (zhc y9 c a [])) zx))))))) zx)))) (U True zx)) zx)):=by kernel_rfl
abbrev znpp95 (a0:Nat->Int->XPp->Prop) (a1 a2:XPp) (a3:Ev) (a4:Rm) (a5:Mm) (a6:Cf) (a7:Rm) (a8:Rk) (a9:Int) (k:V):V:=U (a0 10 a1.s { a2 with s:=a1.s,ob:=O 0,ln:=O 0,co:=O 0 }) (nN (zcd a3 a4 a5 a6 a7 a2 a8 a9 []) k)
abbrev znpp128 (a0:Nat×XPp->Prop) (a1 a2:XPp) (k:V):V:=U (a0 (10,{ a1 with s:=i64.wrap (a2.s+O 1),ob:=O 0,ln:=O 0,co:=O 0 })) (ze9 a2 k)
theorem vPp9_eq (c:Cf) (v:Ev) (a b d:Int) (cf ln lc:Nat) (g:Nat->Int) (I:Nat×XPp->Prop) (J1 J2:Nat->Int->XPp->Prop):V.pr (.b (.b (.b (.f .z) .z) .z) .z) (vPpO 9 c v a b d cf ln lc g I J1 J2)=
 zbx I v.m v cf v.a c v.b (nN (qE v.x.n::zb1 v.b v v.m [qE a,qE cf,qE cf]) (zbz a I fun y0=>zj y0 (z9 XPp (fun (x:XPp)=>I (9,x)) fun y1=>zj (decide (y1.s < O 120)) (zde v v.a y1.m c v.b y1 v.x a fun y2=>zj y2 (zb0 v v.a y1.m (nN ((13,.lt2 0 1 0 1)::qE ((quX c a y1.lv).b)::qE (u64.wrap (y1.x - O 1))::zcw v v.a y1.m [qX (y1.m.acc v.n (O 2) (quX c a y1.lv).b (u64.wrap (y1.x - O 1)))]) (z9 Mm (fun (m':Mm)=>m'=y1.m.acc v.n (O 2) (quX c a y1.lv).b (u64.wrap (y1.x - O 1))) fun y3=>nN (zd9 ((9,.lt 1 2)::(7,.lt2 0 1 1 2)::qE ((quX c a y1.lv).b)::qE (u64.wrap (y1.x - O 1))::(1,.eqI 0 0)::zcy c [])) (zhb v v.b y1.m y1 v.x (nN [qX (y1.m.acc v.n (O 2) (quX c a y1.lv).b (u64.wrap (y1.x - O 1)))] (z9 Mm (fun (m':Mm)=>m'=y1.m.acc v.n (O 2) (quX c a y1.lv).b (u64.wrap (y1.x - O 1))) fun y4=>nN [(3,.lt 1 2)] (zbb v.x v.a v y3 y1 v.b y4 y1.m (U ((1<=1/\1 < 1+1)/\J1 10 y1.s { y1 with m:=y3,ob:=O 0,ln:=O 0,co:=O 0 }) (zbc v v.a y3 c v.b y4 y1 v.x (nN (qE a::zfc y1 c a (qE a::ze0 y1 c a [])) zx)))))))))) (U (∀ (x_2:Nat×XPp),okX 9 x_2.fst/\J1 (nxP 9 x_2.fst) y1.s x_2.snd->1<=x_2.fst/\x_2.fst < 2) (z9 Bool (fun (x:Bool)=>True) fun y3=>zj y3 (z9 XPp (fun (x_2:XPp)=>(1<=1/\1 < 1+1)/\J1 10 y1.s x_2) fun y4=>zde v v.a y4.m c v.b y4 v.x a fun y5=>zj y5 (zj (decide (y1.s < (↑ln:Int))) (zck y1 ln (zj ((g (0+y1.s.toNat)).tmod (O 3) == O 1) (zbn y1 ln g v v.a y4.m c v.b y4 v.x fun y6=>U (J2 10 y1.s { y4 with s:=y1.s,m:=y6,ob:=O 0,ln:=O 0,co:=O 0 }) (nN (zcd v v.a y6 c v.b y4 v.x a []) zx)) (znpp95 J2 y1 y4 v v.a y4.m c v.b v.x a zx))) (znpp95 J2 y1 y4 v v.a y4.m c v.b v.x a zx)) (z9 XPp (J2 10 y1.s) fun y6=>zde v v.a y6.m c v.b y6 v.x a fun y7=>zj y7 (zj (decide (y1.s < (↑ln:Int))) (zcr y1 ln (zj ((g (0+y1.s.toNat)).tmod (O 13) == O 5) (nN [(3,.lt2 0 1 0 1)] (U (J2 10 y1.s { y6 with s:=y1.s,now:=i64.wrap (y6.now+O 1),ob:=O 0,ln:=O 0,co:=O 0 }) (znpps5 v y6 c a))) (znpp95 J2 y1 y6 v v.a y6.m c v.b v.x a zx))) (znpp95 J2 y1 y6 v v.a y6.m c v.b v.x a zx)) (z9 XPp (J2 10 y1.s) fun y8=>zj (y1.s == O 2) (znpp128 I y8 y1 (nN (zcd v v.a y8.m c v.b y8 v.x a []) zx)) (znpp128 I y8 y1 (nN (zcd v v.a y8.m c v.b y8 v.x a []) zx))))) zx))) (U True zx)) zx)):=by kernel_rfl
abbrev znpp61 (a0:Nat×XPp->Prop) (a1 a2:XPp) (k:V):V:=U (a0 (15,{ a1 with s:=i64.wrap (a2.s+O 1),ob:=O 0,ln:=O 0,co:=O 0 })) (ze9 a2 k)
abbrev znpp42 (a0:Cf) (a1:Int) (a2:XPp) (l:LP):LP:=zei a0 a1 a2 (ze0 a2 a0 a1 l)
abbrev zc6 (a0:Cf) (a1:Int) (a2:XPp) (l:LP):LP:=qE (O (15 - 6))::znpp42 a0 a1 a2 l
abbrev znpp93 (a0:Rm) (a1:Mm) (a2:Ev) (a3:Mm) (a4:Nat->Int->XPp->Prop) (a5:XPp) (a6:Cf) (a7:Int) (k:V):V:=znpp85 a0 a1 a2 a3 (U ((1<=1/\1 < 1+3)/\a4 11 a5.s (XPp.mk a5.s a1 a5.now a5.lv (O 0) a5.u (O 0) a5.x (a3.val a2.n (quX a6 a7 a5.lv).t) (O 0) a5.cf)) k)
abbrev znpp96 (a0:Nat->Int->XPp->Prop) (a1 a2:XPp) (a3:Ev) (a4:Rm) (a5:Mm) (a6:Cf) (a7:Rm) (a8:Rk) (a9:Int) (k:V):V:=U (a0 11 a1.s { a2 with s:=a1.s,ob:=O 0,ln:=O 0,co:=O 0 }) (nN (za8 a3 a4 a5 a6 a7 a2 a8 a9 []) k)
abbrev znpp97 (a0:Nat->Int->XPp->Prop) (a1 a2:XPp) (a3:Ev) (a4:Rm) (a5:Mm) (a6:Cf) (a7:Rm) (a8:Rk) (a9:Int) (k:V):V:=U (a0 12 a1.s { a2 with s:=a1.s,ob:=O 0,ln:=O 0,co:=O 0 }) (nN (zcd a3 a4 a5 a6 a7 a2 a8 a9 []) k)
abbrev zeu (a0:Cf) (a1:Int) (a2:XPp) (l:LP):LP:=qE (O (11 - 6))::znpp42 a0 a1 a2 l
abbrev zdh (a0:Cf) (a1:Int) (a2:XPp) (k:Bool->V):V:=nN (zei a0 a1 a2 []) (znpp28 a2 a0 a1 fun v0=>k v0)
abbrev znpp124 (a0:Nat->Int->XPp->Prop) (a1 a2:XPp) (k:V):V:=nN [(3,.lt2 0 1 0 1)] (U (a0 15 a1.s { a2 with s:=a1.s,now:=i64.wrap (a2.now+O 1),ob:=O 0,ln:=O 0,co:=O 0 }) k)
abbrev znpp129 (a0:Nat×XPp->Prop) (a1 a2:XPp) (k:V):V:=U (a0 (11,{ a1 with s:=i64.wrap (a2.s+O 1),ob:=O 0,ln:=O 0,co:=O 0 })) (ze9 a2 k)
abbrev znpp130 (a0:Nat×XPp->Prop) (a1 a2:XPp) (k:V):V:=U (a0 (12,{ a1 with s:=i64.wrap (a2.s+O 1),ob:=O 0,ln:=O 0,co:=O 0 })) (ze9 a2 k)
abbrev zhp (a0:Nat->Int->XPp->Prop) (a1 a2:XPp) (a3:Ev) (a4:Rm) (a5:Mm) (a6:Cf) (a7:Rm) (a8:Rk) (a9:Int) (k:V):V:=U (a0 15 a1.s { a2 with s:=a1.s,ob:=O 0,ln:=O 0,co:=O 0 }) (nN (za8 a3 a4 a5 a6 a7 a2 a8 a9 []) k)
theorem vPp10_eq (c:Cf) (v:Ev) (a b d:Int) (cf ln lc:Nat) (g:Nat->Int) (I:Nat×XPp->Prop) (J1 J2:Nat->Int->XPp->Prop):V.pr (.b (.b (.b (.b (.b (.f .z) (.b (.f .z) (.f .z))) (.b (.t (.f .z)) (.f (.b (.f .z) (.f .z))))) .z) .z) .z) (vPpO 10 c v a b d cf ln lc g I J1 J2)=
 zbx I v.m v cf v.a c v.b (nN (qE v.x.n::zb1 v.b v v.m [qE a,qE cf,qE cf]) (zbz a I fun y0=>zj y0 (z9 XPp (fun (x:XPp)=>I (10,x)) fun y1=>zj (decide (y1.s < O 120)) (zde v v.a y1.m c v.b y1 v.x a fun y2=>zj y2 (zb0 v v.a y1.m (nN ((13,.lt2 0 1 0 1)::qE ((quX c a y1.lv).t)::zcw v v.a y1.m []) (zfi y1.m v c a y1 fun y3=>nN [(8,.lt2 0 1 0 1)] (zj (decide (i64.wrap (u64.wrap (u64.wrap (y1.x - O 1) - y1.m.val v.n (quX c a y1.lv).t)) > O 0)) (nN (zd9 [(13,.lt 1 2),qE ((quX c a y1.lv).t)]) (zcf c v v.b y1.m y1 v.x (zfi y1.m v c a y1 fun y4=>nN (zfl []) (zj (i64.wrap (u64.wrap (u64.wrap (y1.x - O 1) - y1.m.val v.n (quX c a y1.lv).t)) == O 0) (nN [(3,.lt 1 2)] (znpp86 v.x v.a v y3 y1 v.b y4 (nN [qE v.n] (znpp93 v.a y3 v y1.m J1 y1 c a (zbc v v.a y3 c v.b y4 y1 v.x (nN (qE a::zbr y1 []) (U (O 6=O (nxP 10 1 - 6)) (nN (zei c a y1 (zdy y1 y1.m v c a (zf6 c a y1 (zhi y1 y1.m v c a [])))) zx)))))))) (zj (decide (i64.wrap (u64.wrap (u64.wrap (y1.x - O 1) - y1.m.val v.n (quX c a y1.lv).t)) < O 0)) (nN [(3,.lt 1 2)] (znpp86 v.x v.a v y3 y1 v.b y4 (nN [qE v.n] (znpp93 v.a y3 v y1.m J1 y1 c a (zbc v v.a y3 c v.b y4 y1 v.x (nN (qE a::zbr y1 []) (U (O 9=O (nxP 10 1 - 6)) (nN (zei c a y1 (zdy y1 y1.m v c a (zf6 c a y1 (zhi y1 y1.m v c a [])))) zx)))))))) (nN [(3,.lt 1 2)] (znpp86 v.x v.a v y3 y1 v.b y4 (nN [qE v.n] (znpp93 v.a y3 v y1.m J1 y1 c a (zbc v v.a y3 c v.b y4 y1 v.x (nN (qE a::zbr y1 []) (U (O 5=O (nxP 10 1 - 6)) (nN (zei c a y1 (zdy y1 y1.m v c a (zf6 c a y1 (zhi y1 y1.m v c a [])))) zx))))))))))))) (zj (i64.wrap (u64.wrap (u64.wrap (y1.x - O 1) - y1.m.val v.n (quX c a y1.lv).t)) == O 0) (nN (zd9 [(13,.lt 1 2),qE ((quX c a y1.lv).t)]) (zcf c v v.b y1.m y1 v.x (zfi y1.m v c a y1 fun y4=>nN (zfl []) (U ((i64.wrap (u64.wrap (u64.wrap (y1.x - O 1) - y1.m.val v.n (quX c a y1.lv).t)) == O 0)=true) (nN [(3,.lt 1 2)] (zbb v.x v.a v y3 y1 v.b y4 y1.m (U ((1<=2/\2 < 1+3)/\J1 12 y1.s (XPp.mk y1.s y3 y1.now y1.lv (O 0) y1.u (O 0) y1.x (y1.m.val v.n (quX c a y1.lv).t) (O 0) y1.cf)) (zbc v v.a y3 c v.b y4 y1 v.x (nN (qE a::zfc y1 c a (qE a::zdy y1 y1.m v c a (zf6 c a y1 (zhi y1 y1.m v c a [])))) zx))))))))) (nN (zd9 [(13,.lt 1 2),qE ((quX c a y1.lv).t)]) (zcf c v v.b y1.m y1 v.x (zfi y1.m v c a y1 fun y4=>nN (zfl []) (U ((i64.wrap (u64.wrap (u64.wrap (y1.x - O 1) - y1.m.val v.n (quX c a y1.lv).t)) == O 0)=false) (zj (decide (i64.wrap (u64.wrap (u64.wrap (y1.x - O 1) - y1.m.val v.n (quX c a y1.lv).t)) < O 0)) (nN [(3,.lt 1 2)] (zbb v.x v.a v y3 y1 v.b y4 y1.m (U ((1<=3/\3 < 1+3)/\J1 15 y1.s (XPp.mk y1.s y3 y1.now y1.lv (O 0) y1.u (O 0) y1.x (y1.m.val v.n (quX c a y1.lv).t) (O 0) y1.cf)) (zbc v v.a y3 c v.b y4 y1 v.x (nN (qE a::zbr y1 []) (U (O 9=O (nxP 10 3 - 6)) (nN (zei c a y1 (zdy y1 y1.m v c a (zf6 c a y1 (zhi y1 y1.m v c a [])))) zx))))))) (nN [(3,.lt 1 2)] (zbb v.x v.a v y3 y1 v.b y4 y1.m (U ((1<=3/\3 < 1+3)/\J1 15 y1.s (XPp.mk y1.s y3 y1.now y1.lv (O 0) y1.u (O 0) y1.x (y1.m.val v.n (quX c a y1.lv).t) (O 0) y1.cf)) (zbc v v.a y3 c v.b y4 y1 v.x (nN (qE a::zbr y1 []) (U (O 5=O (nxP 10 3 - 6)) (nN (zei c a y1 (zdy y1 y1.m v c a (zf6 c a y1 (zhi y1 y1.m v c a [])))) zx))))))))))))))))) (U (∀ (x_2:Nat×XPp),okX 10 x_2.fst/\J1 (nxP 10 x_2.fst) y1.s x_2.snd->1<=x_2.fst/\x_2.fst < 4) (z9 Bool (fun (x:Bool)=>True) fun y3=>zj y3 (z9 XPp (fun (x_2:XPp)=>(1<=1/\1 < 1+3)/\J1 11 y1.s x_2) fun y4=>nN (za8 v v.a y4.m c v.b y4 v.x a []) (U (O (nxP 10 1 - 6)=O (11 - 6)) (zdh c a y4 fun y5=>zj y5 (zj (decide (y1.s < (↑ln:Int))) (zck y1 ln (zj ((g (0+y1.s.toNat)).tmod (O 3) == O 1) (zbn y1 ln g v v.a y4.m c v.b y4 v.x fun y6=>U (J2 11 y1.s { y4 with s:=y1.s,m:=y6,ob:=O 0,ln:=O 0,co:=O 0 }) (nN (za8 v v.a y6 c v.b y4 v.x a (zeu c a y4 [])) zx)) (znpp96 J2 y1 y4 v v.a y4.m c v.b v.x a (nN (zeu c a y4 []) zx)))) (znpp96 J2 y1 y4 v v.a y4.m c v.b v.x a (nN (zeu c a y4 []) zx))) (z9 XPp (J2 11 y1.s) fun y6=>nN (za8 v v.a y6.m c v.b y6 v.x a [qE (O (11 - 6))]) (zdh c a y6 fun y7=>zj y7 (zj (decide (y1.s < (↑ln:Int))) (zcr y1 ln (zj ((g (0+y1.s.toNat)).tmod (O 13) == O 5) (nN [(3,.lt2 0 1 0 1)] (U (J2 11 y1.s { y6 with s:=y1.s,now:=i64.wrap (y6.now+O 1),ob:=O 0,ln:=O 0,co:=O 0 }) (nN (zch v v.a y6.m c v.b y6 (qE v.x.n::zds v.b v y6.m y6 (qE a::zbr y6 (zeu c a y6 [])))) zx))) (znpp96 J2 y1 y6 v v.a y6.m c v.b v.x a (nN (zeu c a y6 []) zx)))) (znpp96 J2 y1 y6 v v.a y6.m c v.b v.x a (nN (zeu c a y6 []) zx))) (z9 XPp (J2 11 y1.s) fun y8=>zj (y1.s == O 2) (znpp129 I y8 y1 (nN (za8 v v.a y8.m c v.b y8 v.x a (zeu c a y8 [])) zx)) (znpp129 I y8 y1 (nN (za8 v v.a y8.m c v.b y8 v.x a (zeu c a y8 [])) zx)))))))) (z9 Bool (fun (x:Bool)=>True) fun y4=>zj y4 (z9 XPp (fun (x_2:XPp)=>(1<=2/\2 < 1+3)/\J1 12 y1.s x_2) fun y5=>zde v v.a y5.m c v.b y5 v.x a fun y6=>zj y6 (zj (decide (y1.s < (↑ln:Int))) (zck y1 ln (zj ((g (0+y1.s.toNat)).tmod (O 3) == O 1) (zbn y1 ln g v v.a y5.m c v.b y5 v.x fun y7=>U (J2 12 y1.s { y5 with s:=y1.s,m:=y7,ob:=O 0,ln:=O 0,co:=O 0 }) (nN (zcd v v.a y7 c v.b y5 v.x a []) zx)) (znpp97 J2 y1 y5 v v.a y5.m c v.b v.x a zx))) (znpp97 J2 y1 y5 v v.a y5.m c v.b v.x a zx)) (z9 XPp (J2 12 y1.s) fun y7=>zde v v.a y7.m c v.b y7 v.x a fun y8=>zj y8 (zj (decide (y1.s < (↑ln:Int))) (zcr y1 ln (zj ((g (0+y1.s.toNat)).tmod (O 13) == O 5) (nN [(3,.lt2 0 1 0 1)] (U (J2 12 y1.s { y7 with s:=y1.s,now:=i64.wrap (y7.now+O 1),ob:=O 0,ln:=O 0,co:=O 0 }) (nN (zch v v.a y7.m c v.b y7 (qE v.x.n::zds v.b v y7.m y7 (qE a::zfc y7 c a (qE a::ze0 y7 c a [])))) zx))) (znpp97 J2 y1 y7 v v.a y7.m c v.b v.x a zx))) (znpp97 J2 y1 y7 v v.a y7.m c v.b v.x a zx)) (z9 XPp (J2 12 y1.s) fun y9=>zj (y1.s == O 2) (znpp130 I y9 y1 (nN (zcd v v.a y9.m c v.b y9 v.x a []) zx)) (znpp130 I y9 y1 (nN (zcd v v.a y9.m c v.b y9 v.x a []) zx))))) (z9 Bool (fun (x:Bool)=>True) fun y5=>zj y5 (z9 XPp (fun (x_2:XPp)=>(1<=3/\3 < 1+3)/\J1 15 y1.s x_2) fun y6=>nN (za8 v v.a y6.m c v.b y6 v.x a []) (U (O (nxP 10 3 - 6)=O (15 - 6)) (zdh c a y6 fun y7=>zj y7 (zj (decide (y1.s < (↑ln:Int))) (zck y1 ln (zj ((g (0+y1.s.toNat)).tmod (O 3) == O 1) (zbn y1 ln g v v.a y6.m c v.b y6 v.x fun y8=>U (J2 15 y1.s { y6 with s:=y1.s,m:=y8,ob:=O 0,ln:=O 0,co:=O 0 }) (nN (za8 v v.a y8 c v.b y6 v.x a (zc6 c a y6 [])) zx)) (zhp J2 y1 y6 v v.a y6.m c v.b v.x a (nN (zc6 c a y6 []) zx)))) (zhp J2 y1 y6 v v.a y6.m c v.b v.x a (nN (zc6 c a y6 []) zx))) (z9 XPp (J2 15 y1.s) fun y8=>nN (za8 v v.a y8.m c v.b y8 v.x a [qE (O (15 - 6))]) (zdh c a y8 fun y9=>zj y9 (zj (decide (y1.s < (↑ln:Int))) (zcr y1 ln (zj ((g (0+y1.s.toNat)).tmod (O 13) == O 5) (znpp124 J2 y1 y8 (nN (zch v v.a y8.m c v.b y8 (qE v.x.n::zds v.b v y8.m y8 (qE a::zbr y8 (zc6 c a y8 [])))) zx)) (zhp J2 y1 y8 v v.a y8.m c v.b v.x a (nN (zc6 c a y8 []) zx)))) (zhp J2 y1 y8 v v.a y8.m c v.b v.x a (nN (zc6 c a y8 []) zx))) (z9 XPp (J2 15 y1.s) fun y10=>zj (y1.s == O 2) (znpp61 I y10 y1 (nN (za8 v v.a y10.m c v.b y10 v.x a (zc6 c a y10 [])) zx)) (znpp61 I y10 y1 (nN (za8 v v.a y10.m c v.b y10 v.x a (zc6 c a y10 [])) zx)))))))) zx))))) (U True zx)) zx)):=by kernel_rfl
abbrev znpp67 (a0:Cf) (a1:Int) (a2:XPp) (k:V):V:=U ((quX a0 a1 a2.lv).c<=O 9223372036854775807) (nN [qE (zem (quX a0 a1 a2.lv).r (quX a0 a1 a2.lv).c (u64.wrap (a2.x - O 1)))] k)
abbrev znpp127 (a0:Mm) (a1:Ev) (a2:Cf) (a3:Int) (a4:XPp) (k:V):V:=nN [(6,.lt2 0 1 0 1)] (U ((i64.wrap (a0.val a1.n (zem (quX a2 a3 a4.lv).r (quX a2 a3 a4.lv).c (u64.wrap (a4.x - O 1)))) == i64.wrap (a0.val a1.n (zem (quX a2 a3 a4.lv).r (quX a2 a3 a4.lv).c (u64.wrap (a4.x - O 1)))))=true) k)
abbrev znpp30 (a0:Mm) (a1:Ev) (a2:Cf) (a3:Int) (a4:XPp) (k:Mm->V):V:=nN [qX (a0.acc a1.n (O 1) (zem (quX a2 a3 a4.lv).r (quX a2 a3 a4.lv).c (u64.wrap (a4.x - O 1))) (a0.val a1.n (zem (quX a2 a3 a4.lv).r (quX a2 a3 a4.lv).c (u64.wrap (a4.x - O 1)))))] (z9 Mm (fun (m':Mm)=>m'=a0.acc a1.n (O 1) (zem (quX a2 a3 a4.lv).r (quX a2 a3 a4.lv).c (u64.wrap (a4.x - O 1))) (a0.val a1.n (zem (quX a2 a3 a4.lv).r (quX a2 a3 a4.lv).c (u64.wrap (a4.x - O 1))))) fun v0=>k v0)
abbrev znpps6 (c:Cf) (a:Int) (y1:XPp) (v:Ev) (y3:Mm):V:=znpp67 c a y1 (zcf c v v.b y1.m y1 v.x (znpp30 y1.m v c a y1 fun y4=>znpp40 y1 (nN (znpp122 [(6,.lt 0 2),(6,.lt2 0 1 0 1)]) (znpp64 y1 (zbb v.x v.a v y3 y1 v.b y4 y1.m (znpp127 y1.m v c a y1 (znpps3 v y3 y1 y4)))))))
abbrev znpp131 (a0:Cf) (a1:Int) (a2:XPp) (l:LP):LP:=zf6 a0 a1 a2 (qE (u64.wrap (a2.x - O 1))::l)
abbrev zed (l:LP):LP:=qE false::qE false::l
theorem vPp11_eq (c:Cf) (v:Ev) (a b d:Int) (cf ln lc:Nat) (g:Nat->Int) (I:Nat×XPp->Prop) (J1 J2:Nat->Int->XPp->Prop):V.pr (.b (.b (.b (.f (.f (.f (.f (.t (.t (.f (.t .z)))))))) .z) .z) .z) (vPpO 11 c v a b d cf ln lc g I J1 J2)=
 zbx I v.m v cf v.a c v.b (nN (qE v.x.n::zb1 v.b v v.m [qE a,qE cf,qE cf]) (zbz a I fun y0=>zj y0 (z9 XPp (fun (x:XPp)=>I (11,x)) fun y1=>zj (decide (y1.s < O 120)) (nN (za8 v v.a y1.m c v.b y1 v.x a []) (U (O (11 - 6)=O (nxP 11 0 - 6)) (zdh c a y1 fun y2=>zj y2 (zb0 v v.a y1.m (nN ((17,.lt2 0 1 0 1)::znpp131 c a y1 []) (znpp67 c a y1 (nN (zcw v v.a y1.m []) (znpp30 y1.m v c a y1 fun y3=>nN (znpp145 ((9,.lt 1 2)::zed (zed (qE true::qE true::(9,.lt2 0 1 1 2)::znpp131 c a y1 [])))) (znpps6 c a y1 v y3)))))) (U (∀ (x_2:Nat×XPp),okX 11 x_2.fst/\J1 (nxP 11 x_2.fst) y1.s x_2.snd->1<=x_2.fst/\x_2.fst < 1) zx)))) (U True zx)) zx)):=by kernel_rfl
abbrev znpp51 (a0:Mm) (a1:Ev) (a2:Cf) (a3:Int) (a4:XPp) (k:Mm->V):V:=nN [qX (a0.acc a1.n (O 3) (quX a2 a3 a4.lv).t (casV (a0.hit a1.n (quX a2 a3 a4.lv).t a4.z) (a0.val a1.n (quX a2 a3 a4.lv).t) (u64.wrap (a4.z+O 1))))] (z9 Mm (fun (m':Mm)=>m'=a0.acc a1.n (O 3) (quX a2 a3 a4.lv).t (casV (a0.hit a1.n (quX a2 a3 a4.lv).t a4.z) (a0.val a1.n (quX a2 a3 a4.lv).t) (u64.wrap (a4.z+O 1)))) fun v0=>k v0)
abbrev znpp98 (a0:Nat->Int->XPp->Prop) (a1 a2:XPp) (a3:Ev) (a4:Rm) (a5:Mm) (a6:Cf) (a7:Rm) (a8:Rk) (a9:Int) (k:V):V:=U (a0 13 a1.s { a2 with s:=a1.s,ob:=O 0,ln:=O 0,co:=O 0 }) (nN (za8 a3 a4 a5 a6 a7 a2 a8 a9 []) k)
abbrev zev (a0:Cf) (a1:Int) (a2:XPp) (l:LP):LP:=qE (O (13 - 6))::znpp42 a0 a1 a2 l
abbrev znpp132 (a0:Nat×XPp->Prop) (a1 a2:XPp) (k:V):V:=U (a0 (13,{ a1 with s:=i64.wrap (a2.s+O 1),ob:=O 0,ln:=O 0,co:=O 0 })) (ze9 a2 k)
theorem vPp12_eq (c:Cf) (v:Ev) (a b d:Int) (cf ln lc:Nat) (g:Nat->Int) (I:Nat×XPp->Prop) (J1 J2:Nat->Int->XPp->Prop):V.pr (.b (.b (.b (.b (.t (.f .z)) (.f (.f .z))) .z) .z) .z) (vPpO 12 c v a b d cf ln lc g I J1 J2)=
 zbx I v.m v cf v.a c v.b (nN (qE v.x.n::zb1 v.b v v.m [qE a,qE cf,qE cf]) (zbz a I fun y0=>zj y0 (z9 XPp (fun (x:XPp)=>I (12,x)) fun y1=>zj (decide (y1.s < O 120)) (zde v v.a y1.m c v.b y1 v.x a fun y2=>zj y2 (zb0 v v.a y1.m (nN ((16,.lt2 0 1 0 1)::qE ((quX c a y1.lv).t)::qE y1.z::qE (u64.wrap (y1.z+O 1))::zcw v v.a y1.m []) (znpp51 y1.m v c a y1 fun y3=>zj (!(y1.m).hit v.n (quX c a y1.lv).t y1.z) (nN (zd9 ((9,.lt 1 2)::(10,.lt2 0 1 1 2)::qE ((quX c a y1.lv).t)::qE y1.z::qE (u64.wrap (y1.z+O 1))::zcy c [])) (zhb v v.b y1.m y1 v.x (znpp51 y1.m v c a y1 fun y4=>U ((!(y1.m).hit v.n (quX c a y1.lv).t y1.z)=true) (nN [(3,.lt 1 2)] (zbb v.x v.a v y3 y1 v.b y4 y1.m (U ((1<=2/\2 < 1+2)/\J1 15 y1.s { y1 with m:=y3,ob:=O 0,ln:=O 0,co:=O 0 }) (zbc v v.a y3 c v.b y4 y1 v.x (nN (qE a::zbr y1 []) (U (O 9=O (nxP 12 2 - 6)) (nN (znpp42 c a y1 []) zx)))))))))) (nN (zd9 ((9,.lt 1 2)::(10,.lt2 0 1 1 2)::qE ((quX c a y1.lv).t)::qE y1.z::qE (u64.wrap (y1.z+O 1))::zcy c [])) (zhb v v.b y1.m y1 v.x (znpp51 y1.m v c a y1 fun y4=>U ((!(y1.m).hit v.n (quX c a y1.lv).t y1.z)=false) (nN [(3,.lt 1 2)] (zbb v.x v.a v y3 y1 v.b y4 y1.m (U ((1<=1/\1 < 1+2)/\J1 13 y1.s { y1 with m:=y3,ob:=O 0,ln:=O 0,co:=O 0 }) (zbc v v.a y3 c v.b y4 y1 v.x (nN (qE a::zbr y1 []) (U (O 7=O (nxP 12 1 - 6)) (nN (znpp42 c a y1 []) zx))))))))))))) (U (∀ (x_2:Nat×XPp),okX 12 x_2.fst/\J1 (nxP 12 x_2.fst) y1.s x_2.snd->1<=x_2.fst/\x_2.fst < 3) (z9 Bool (fun (x:Bool)=>True) fun y3=>zj y3 (z9 XPp (fun (x_2:XPp)=>(1<=1/\1 < 1+2)/\J1 13 y1.s x_2) fun y4=>nN (za8 v v.a y4.m c v.b y4 v.x a []) (U (O (nxP 12 1 - 6)=O (13 - 6)) (zdh c a y4 fun y5=>zj y5 (zj (decide (y1.s < (↑ln:Int))) (zck y1 ln (zj ((g (0+y1.s.toNat)).tmod (O 3) == O 1) (zbn y1 ln g v v.a y4.m c v.b y4 v.x fun y6=>U (J2 13 y1.s { y4 with s:=y1.s,m:=y6,ob:=O 0,ln:=O 0,co:=O 0 }) (nN (za8 v v.a y6 c v.b y4 v.x a (zev c a y4 [])) zx)) (znpp98 J2 y1 y4 v v.a y4.m c v.b v.x a (nN (zev c a y4 []) zx)))) (znpp98 J2 y1 y4 v v.a y4.m c v.b v.x a (nN (zev c a y4 []) zx))) (z9 XPp (J2 13 y1.s) fun y6=>nN (za8 v v.a y6.m c v.b y6 v.x a [qE (O (13 - 6))]) (zdh c a y6 fun y7=>zj y7 (zj (decide (y1.s < (↑ln:Int))) (zcr y1 ln (zj ((g (0+y1.s.toNat)).tmod (O 13) == O 5) (nN [(3,.lt2 0 1 0 1)] (U (J2 13 y1.s { y6 with s:=y1.s,now:=i64.wrap (y6.now+O 1),ob:=O 0,ln:=O 0,co:=O 0 }) (nN (zch v v.a y6.m c v.b y6 (qE v.x.n::zds v.b v y6.m y6 (qE a::zbr y6 (zev c a y6 [])))) zx))) (znpp98 J2 y1 y6 v v.a y6.m c v.b v.x a (nN (zev c a y6 []) zx)))) (znpp98 J2 y1 y6 v v.a y6.m c v.b v.x a (nN (zev c a y6 []) zx))) (z9 XPp (J2 13 y1.s) fun y8=>zj (y1.s == O 2) (znpp132 I y8 y1 (nN (za8 v v.a y8.m c v.b y8 v.x a (zev c a y8 [])) zx)) (znpp132 I y8 y1 (nN (za8 v v.a y8.m c v.b y8 v.x a (zev c a y8 [])) zx)))))))) (z9 Bool (fun (x:Bool)=>True) fun y4=>zj y4 (z9 XPp (fun (x_2:XPp)=>(1<=2/\2 < 1+2)/\J1 15 y1.s x_2) fun y5=>nN (za8 v v.a y5.m c v.b y5 v.x a []) (U (O (nxP 12 2 - 6)=O (15 - 6)) (zdh c a y5 fun y6=>zj y6 (zj (decide (y1.s < (↑ln:Int))) (zck y1 ln (zj ((g (0+y1.s.toNat)).tmod (O 3) == O 1) (zbn y1 ln g v v.a y5.m c v.b y5 v.x fun y7=>U (J2 15 y1.s { y5 with s:=y1.s,m:=y7,ob:=O 0,ln:=O 0,co:=O 0 }) (nN (za8 v v.a y7 c v.b y5 v.x a (zc6 c a y5 [])) zx)) (zhp J2 y1 y5 v v.a y5.m c v.b v.x a (nN (zc6 c a y5 []) zx)))) (zhp J2 y1 y5 v v.a y5.m c v.b v.x a (nN (zc6 c a y5 []) zx))) (z9 XPp (J2 15 y1.s) fun y7=>nN (za8 v v.a y7.m c v.b y7 v.x a [qE (O (15 - 6))]) (zdh c a y7 fun y8=>zj y8 (zj (decide (y1.s < (↑ln:Int))) (zcr y1 ln (zj ((g (0+y1.s.toNat)).tmod (O 13) == O 5) (znpp124 J2 y1 y7 (nN (zch v v.a y7.m c v.b y7 (qE v.x.n::zds v.b v y7.m y7 (qE a::zbr y7 (zc6 c a y7 [])))) zx)) (zhp J2 y1 y7 v v.a y7.m c v.b v.x a (nN (zc6 c a y7 []) zx)))) (zhp J2 y1 y7 v v.a y7.m c v.b v.x a (nN (zc6 c a y7 []) zx))) (z9 XPp (J2 15 y1.s) fun y9=>zj (y1.s == O 2) (znpp61 I y9 y1 (nN (za8 v v.a y9.m c v.b y9 v.x a (zc6 c a y9 [])) zx)) (znpp61 I y9 y1 (nN (za8 v v.a y9.m c v.b y9 v.x a (zc6 c a y9 [])) zx)))))))) zx)))) (U True zx)) zx)):=by kernel_rfl
abbrev znpp82 (a0:Mm) (a1:Ev) (a2:Cf) (a3:Int) (a4:XPp) (k:Mm->V):V:=nN [qX (a0.acc a1.n (O 2) (quX a2 a3 a4.lv).b a4.x)] (z9 Mm (fun (m':Mm)=>m'=a0.acc a1.n (O 2) (quX a2 a3 a4.lv).b a4.x) fun v0=>k v0)
abbrev znpp99 (a0:Nat->Int->XPp->Prop) (a1 a2:XPp) (a3:Ev) (a4:Rm) (a5:Mm) (a6:Cf) (a7:Rm) (a8:Rk) (a9:Int) (k:V):V:=U (a0 14 a1.s { a2 with s:=a1.s,ob:=O 0,ln:=O 0,co:=O 0 }) (nN (zcd a3 a4 a5 a6 a7 a2 a8 a9 []) k)
abbrev znpp133 (a0:Nat×XPp->Prop) (a1 a2:XPp) (k:V):V:=U (a0 (14,{ a1 with s:=i64.wrap (a2.s+O 1),ob:=O 0,ln:=O 0,co:=O 0 })) (ze9 a2 k)
theorem vPp13_eq (c:Cf) (v:Ev) (a b d:Int) (cf ln lc:Nat) (g:Nat->Int) (I:Nat×XPp->Prop) (J1 J2:Nat->Int->XPp->Prop):V.pr (.b (.b (.b (.f (.f (.f (.f (.f (.f (.f (.t (.f .z))))))))) .z) .z) .z) (vPpO 13 c v a b d cf ln lc g I J1 J2)=
 zbx I v.m v cf v.a c v.b (nN (qE v.x.n::zb1 v.b v v.m [qE a,qE cf,qE cf]) (zbz a I fun y0=>zj y0 (z9 XPp (fun (x:XPp)=>I (13,x)) fun y1=>zj (decide (y1.s < O 120)) (nN (za8 v v.a y1.m c v.b y1 v.x a []) (U (O (13 - 6)=O (nxP 13 0 - 6)) (zdh c a y1 fun y2=>zj y2 (zb0 v v.a y1.m (nN ((13,.lt2 0 1 0 1)::qE ((quX c a y1.lv).b)::qE y1.x::zcw v v.a y1.m []) (znpp82 y1.m v c a y1 fun y3=>nN (zd9 ((9,.lt 1 2)::zed (zed (zed (qE false::qE true::(7,.lt2 0 1 1 2)::qE ((quX c a y1.lv).b)::qE y1.x::(1,.eqI 0 0)::zcy c []))))) (zhb v v.b y1.m y1 v.x (znpp82 y1.m v c a y1 fun y4=>nN [(3,.lt 1 2)] (zbb v.x v.a v y3 y1 v.b y4 y1.m (U ((1<=1/\1 < 1+1)/\J1 14 y1.s { y1 with m:=y3,ob:=O 0,ln:=O 0,co:=O 0 }) (zbc v v.a y3 c v.b y4 y1 v.x (nN (qE a::zbr y1 []) (U (i64.wrap (O (nxP 13 0 - 6)+O 1)=O (nxP 13 1 - 6)) (nN (znpp42 c a y1 []) zx))))))))))) (U (∀ (x_2:Nat×XPp),okX 13 x_2.fst/\J1 (nxP 13 x_2.fst) y1.s x_2.snd->1<=x_2.fst/\x_2.fst < 2) (z9 Bool (fun (x:Bool)=>True) fun y3=>zj y3 (z9 XPp (fun (x_2:XPp)=>(1<=1/\1 < 1+1)/\J1 14 y1.s x_2) fun y4=>zde v v.a y4.m c v.b y4 v.x a fun y5=>zj y5 (zj (decide (y1.s < (↑ln:Int))) (zck y1 ln (zj ((g (0+y1.s.toNat)).tmod (O 3) == O 1) (zbn y1 ln g v v.a y4.m c v.b y4 v.x fun y6=>U (J2 14 y1.s { y4 with s:=y1.s,m:=y6,ob:=O 0,ln:=O 0,co:=O 0 }) (nN (zcd v v.a y6 c v.b y4 v.x a []) zx)) (znpp99 J2 y1 y4 v v.a y4.m c v.b v.x a zx))) (znpp99 J2 y1 y4 v v.a y4.m c v.b v.x a zx)) (z9 XPp (J2 14 y1.s) fun y6=>zde v v.a y6.m c v.b y6 v.x a fun y7=>zj y7 (zj (decide (y1.s < (↑ln:Int))) (zcr y1 ln (zj ((g (0+y1.s.toNat)).tmod (O 13) == O 5) (nN [(3,.lt2 0 1 0 1)] (U (J2 14 y1.s { y6 with s:=y1.s,now:=i64.wrap (y6.now+O 1),ob:=O 0,ln:=O 0,co:=O 0 }) (znpps5 v y6 c a))) (znpp99 J2 y1 y6 v v.a y6.m c v.b v.x a zx))) (znpp99 J2 y1 y6 v v.a y6.m c v.b v.x a zx)) (z9 XPp (J2 14 y1.s) fun y8=>zj (y1.s == O 2) (znpp133 I y8 y1 (nN (zcd v v.a y8.m c v.b y8 v.x a []) zx)) (znpp133 I y8 y1 (nN (zcd v v.a y8.m c v.b y8 v.x a []) zx))))) zx))))) (U True zx)) zx)):=by kernel_rfl
theorem vPp14_eq (c:Cf) (v:Ev) (a b d:Int) (cf ln lc:Nat) (g:Nat->Int) (I:Nat×XPp->Prop) (J1 J2:Nat->Int->XPp->Prop):V.pr (.b (.b (.b (.f (.t .z)) .z) .z) .z) (vPpO 14 c v a b d cf ln lc g I J1 J2)=
 zbx I v.m v cf v.a c v.b (nN (qE v.x.n::zb1 v.b v v.m [qE a,qE cf,qE cf]) (zbz a I fun y0=>zj y0 (z9 XPp (fun (x:XPp)=>I (14,x)) fun y1=>zj (decide (y1.s < O 120)) (zde v v.a y1.m c v.b y1 v.x a fun y2=>zj y2 (zb0 v v.a y1.m (nN ((17,.lt2 0 1 0 1)::znpp131 c a y1 []) (znpp67 c a y1 (nN (zcw v v.a y1.m []) (znpp30 y1.m v c a y1 fun y3=>nN (znpp145 ((9,.lt 1 2)::(9,.lt2 0 1 1 2)::znpp131 c a y1 [])) (znpps6 c a y1 v y3)))))) (U (∀ (x_2:Nat×XPp),okX 14 x_2.fst/\J1 (nxP 14 x_2.fst) y1.s x_2.snd->1<=x_2.fst/\x_2.fst < 1) zx)) (U True zx)) zx)):=by kernel_rfl
theorem vPp15_eq (c:Cf) (v:Ev) (a b d:Int) (cf ln lc:Nat) (g:Nat->Int) (I:Nat×XPp->Prop) (J1 J2:Nat->Int->XPp->Prop):V.pr (.b (.b (.b (.f (.f (.f (.f (.f (.f (.f (.f (.f .z))))))))) .z) .z) .z) (vPpO 15 c v a b d cf ln lc g I J1 J2)=
 zbx I v.m v cf v.a c v.b (nN (qE v.x.n::zb1 v.b v v.m [qE a,qE cf,qE cf]) (zbz a I fun y0=>zj y0 (z9 XPp (fun (x:XPp)=>I (15,x)) fun y1=>zj (decide (y1.s < O 120)) (nN (za8 v v.a y1.m c v.b y1 v.x a []) (U (O (15 - 6)=O (nxP 15 0 - 6)) (zdh c a y1 fun y2=>zj y2 (zb0 v v.a y1.m (nN ((13,.lt2 0 1 0 1)::qE ((quX c a y1.lv).b)::qE y1.x::zcw v v.a y1.m []) (znpp82 y1.m v c a y1 fun y3=>nN [(22,.lt2 0 1 0 1),qE c.W,qE c.L,qE c.C,qE c.T,qE c.D,qE c.H,qE (lS c),qE (lE c),qE (lB c),qE (lQ c),qE (lT c)] (znpp108 a c (nN [(22,.lt2 0 1 0 1),qE c.W,qE c.L,qE c.C,qE c.T,qE c.D,qE c.H,qE (lS c),qE (lE c),qE (lB c),qE (lQ c),qE (lT c),qE a,qE y1.lv] (znpp140 c (nN (znpp116 ((9,.lt 1 2)::zed (zed (zed (zed ((7,.lt2 0 1 1 2)::qE ((quX c a y1.lv).b)::qE y1.x::(1,.eqI 0 0)::zcy c [])))))) (zhb v v.b y1.m y1 v.x (znpp82 y1.m v c a y1 fun y4=>znpp40 y1 (nN (znpp122 [(9,.lt 0 2)]) (zbb v.x v.a v y3 y1 v.b y4 y1.m (U ((1<=1/\1 < 1+1)/\J1 4 y1.s { y1 with m:=y3,ob:=O 0,ln:=O (nxP 15 0 - 6),co:=O 0 }) (zbc v v.a y3 c v.b y4 y1 v.x (nN (qE a::zbr y1 (qE (O (nxP 15 0 - 6))::zei c a y1 (znpp21 y1 (zf5 c a y1 [])))) (znpp65 c a y1 (znpp66 c a y1 zx)))))))))))))))) (U (∀ (x_2:Nat×XPp),okX 15 x_2.fst/\J1 (nxP 15 x_2.fst) y1.s x_2.snd->1<=x_2.fst/\x_2.fst < 2) (z9 Bool (fun (x:Bool)=>True) fun y3=>zj y3 (z9 XPp (fun (x_2:XPp)=>(1<=1/\1 < 1+1)/\J1 4 y1.s x_2) fun y4=>nN (zbu v v.a y4.m c v.b y4 v.x a []) (znpp109 y4 c a fun y5=>zj y5 (zj (decide (y1.s < (↑ln:Int))) (zck y1 ln (zj ((g (0+y1.s.toNat)).tmod (O 3) == O 1) (zbn y1 ln g v v.a y4.m c v.b y4 v.x fun y6=>U (J2 4 y1.s { y4 with s:=y1.s,m:=y6,ob:=O 0,co:=O 0 }) (nN (zbu v v.a y6 c v.b y4 v.x a (zhc y4 c a [])) zx)) (zhd J2 y1 y4 v v.a y4.m c v.b v.x a (nN (zdz y4 c a []) zx)))) (zhd J2 y1 y4 v v.a y4.m c v.b v.x a (nN (zdz y4 c a []) zx))) (z9 XPp (J2 4 y1.s) fun y6=>nN (zbu v v.a y6.m c v.b y6 v.x a []) (znpp109 y6 c a fun y7=>zj y7 (zj (decide (y1.s < (↑ln:Int))) (zcr y1 ln (zj ((g (0+y1.s.toNat)).tmod (O 13) == O 5) (znpp143 J2 y1 y6 (nN (zch v v.a y6.m c v.b y6 (qE v.x.n::zds v.b v y6.m y6 (qE a::zbr y6 (zdz y6 c a [])))) zx)) (zhd J2 y1 y6 v v.a y6.m c v.b v.x a (nN (zdz y6 c a []) zx)))) (zhd J2 y1 y6 v v.a y6.m c v.b v.x a (nN (zdz y6 c a []) zx))) (z9 XPp (J2 4 y1.s) fun y8=>zj (y1.s == O 2) (znpp69 I y8 y1 (nN (zbu v v.a y8.m c v.b y8 v.x a (zhc y8 c a [])) zx)) (znpp69 I y8 y1 (nN (zbu v v.a y8.m c v.b y8 v.x a (zhc y8 c a [])) zx))))))) zx))))) (U True zx)) zx)):=by kernel_rfl
def rmP (p cf:Nat):Prop:=p < 2\/2<=cf
def iPp (x:Nat×XPp):Prop:=rI x.2.s x.2.m/\x.1 < 16/\rmP x.1 x.2.cf/\wW x.2.x
def jPp (b:Int) (p:Nat) (q:Int) (x:XPp):Prop:=rM b q x.m/\rmP p x.cf/\wW x.x
theorem okX_i {n i:Nat} (h:okX n i):1<=i/\i < 1+(nxL n).length:=h
section
variable {c:Cf} {v:Ev} {q s now k a y lv ob u ln xx zz co:Int} {j n cf p:Nat} {m:Mm} {x:XPp}
theorem Pp_r (hi:iPp (j,x)) (h:decide (x.s < (n:Int))=true):O 0<=x.s/\x.s < n:=q_r hi.1 h
theorem Pp_r2 (hi:iPp (j,x)) (h:decide (x.s < (n:Int))=true):0 < 1/\0+x.s.toNat < n:=q_r2 hi.1 h
theorem Pp_mu (hi:iPp (j,x)) (hs:decide (x.s < O 120)=true):(O 200 - i64.wrap (x.s+O 1)).toNat < (O 200 - x.s).toNat:=q_mu hi.1 hs (by decide)
theorem Pp_ct (hi:iPp (j,x)) (hs:decide (x.s < O 120)=true) (h:m=x.m.acc n k a y):decide (m.ct > i64.wrap (x.m.ct+O 1))=false:=q_ctf hi.1 hs (by decide) h
theorem Pp_cg (hi:iPp (j,x)) (hs:decide (x.s < O 120)=true):decide (x.m.ct > i64.wrap (x.m.ct+O 1))=false:=q_ctg hi.1 hs (by decide)
theorem Pp_v (hi:iPp (j,x)):wW (x.m.val n a):=q_v hi.1
theorem Pp_f (hi:iPp (j,x)) (hj:2<=j):2<=x.cf:=hi.2.2.1.resolve_left (by show ¬ j < 2; omega)
theorem Pp_j (hi:iPp (j,x)) (hs:decide (x.s < O 120)=true) (hm:m=x.m.acc n k a y) (hy:wW y) (hf:rmP p cf) (hx:wW xx):jPp 1 p x.s ⟨x.s,m,now,lv,ob,u,ln,xx,zz,co,cf⟩:=⟨q_j hi.1 hs (by decide) hm hy,hf,hx⟩
theorem zgm {b:Int} (h:jPp b p q x):wW x.x:=h.2.2
theorem Pp_ix (h:iPp (j,x)):wW x.x:=h.2.2.2
theorem Pp_2 (h:jPp 1 p q x) (hx:wW xx):jPp 2 p q ⟨s,x.m,now,lv,ob,u,ln,xx,zz,co,x.cf⟩:=⟨q_2 h.1,h.2.1,hx⟩
theorem Pp_2d (h:jPp 1 p q x) (hm:okMw (x.m.ct+O 1) m) (hx:wW xx):jPp 2 p q ⟨s,m,now,lv,ob,u,ln,xx,zz,co,x.cf⟩:=⟨q_2d h.1 hm,h.2.1,hx⟩
theorem Pp_3 (h:jPp 2 p q x) (hx:wW xx):jPp 2 p q ⟨s,x.m,now,lv,ob,u,ln,xx,zz,co,x.cf⟩:=⟨h.1,h.2.1,hx⟩
theorem Pp_i (h:jPp 2 j q x) (hj:j < 16) (hx:wW xx):iPp (j,⟨i64.wrap (q+O 1),x.m,now,lv,ob,u,ln,xx,zz,co,x.cf⟩):=⟨q_i h.1,hj,h.2.1,hx⟩
theorem Pp_0 (h:okMq c v) (hx:wW xx):iPp (0,⟨O 0,v.m,now,lv,ob,u,ln,xx,zz,co,cf⟩):=⟨q_m0 h,by show (0:Nat) < 16; decide,.inl (by show (0:Nat) < 2; decide),hx⟩
theorem Pp_n1 {a:Int} (h1:decide (a > O 0)=true) (h2:(a == O 0)=true):False:=by
 have h1:a > 0:=of_decide_eq_true h1
 have h2:a=0:=eq_of_beq h2
 omega
theorem Pp_n2 {a:Int} (h1:decide (a > O 0)=true) (h2:decide (a < O 0)=true):False:=by
 have h1:a > 0:=of_decide_eq_true h1
 have h2:a < 0:=of_decide_eq_true h2
 omega
theorem Pp_n3 {a:Int} (h1:decide (a > O 0)=false) (h2:(a == O 0)=false) (h3:decide (a < O 0)=false):False:=by
 have h1:¬ a > 0:=of_decide_eq_false h1
 have h2:¬ a=0:=fun e=>by rw [e] at h2; cases h2
 have h3:¬ a < 0:=of_decide_eq_false h3
 omega
theorem Pp_qc (h:okMq c v):(quX c s q).c<=O 9223372036854775807:=Int.le_trans (quN_c h) (by decide)
end
theorem vhPpA {c:Cf} {v:Ev} {w t d:Int} {cf ln lc:Nat} {g:Nat->Int} (h:okMq c v):zad (vPpO 0 c v w t d cf ln lc g iPp (jPp 1) (jPp 2))/\zad (vPpO 1 c v w t d cf ln lc g iPp (jPp 1) (jPp 2))/\zad (vPpO 2 c v w t d cf ln lc g iPp (jPp 1) (jPp 2))/\zad (vPpO 3 c v w t d cf ln lc g iPp (jPp 1) (jPp 2))/\zad (vPpO 4 c v w t d cf ln lc g iPp (jPp 1) (jPp 2))/\zad (vPpO 5 c v w t d cf ln lc g iPp (jPp 1) (jPp 2))/\zad (vPpO 6 c v w t d cf ln lc g iPp (jPp 1) (jPp 2))/\zad (vPpO 7 c v w t d cf ln lc g iPp (jPp 1) (jPp 2))/\zad (vPpO 8 c v w t d cf ln lc g iPp (jPp 1) (jPp 2))/\zad (vPpO 9 c v w t d cf ln lc g iPp (jPp 1) (jPp 2))/\zad (vPpO 10 c v w t d cf ln lc g iPp (jPp 1) (jPp 2))/\zad (vPpO 11 c v w t d cf ln lc g iPp (jPp 1) (jPp 2))/\zad (vPpO 12 c v w t d cf ln lc g iPp (jPp 1) (jPp 2))/\zad (vPpO 13 c v w t d cf ln lc g iPp (jPp 1) (jPp 2))/\zad (vPpO 14 c v w t d cf ln lc g iPp (jPp 1) (jPp 2))/\zad (vPpO 15 c v w t d cf ln lc g iPp (jPp 1) (jPp 2)):=by
 refine ⟨zad.pr (vPp0_eq ..) ?_,zad.pr (vPp1_eq ..) ?_,zad.pr (vPp2_eq ..) ?_,zad.pr (vPp3_eq ..) ?_,zad.pr (vPp4_eq ..) ?_,zad.pr (vPp5_eq ..) ?_,zad.pr (vPp6_eq ..) ?_,zad.pr (vPp7_eq ..) ?_,zad.pr (vPp8_eq ..) ?_,zad.pr (vPp9_eq ..) ?_,zad.pr (vPp10_eq ..) ?_,zad.pr (vPp11_eq ..) ?_,zad.pr (vPp12_eq ..) ?_,zad.pr (vPp13_eq ..) ?_,zad.pr (vPp14_eq ..) ?_,zad.pr (vPp15_eq ..) ?_⟩
 all_goals (with_reducible repeat' first | exact V.okI | refine V.brT ?_ | refine V.brF ?_ | refine V.brI ?_ ?_ | refine V.anyI ?_ | refine nN_h rfl ?_ | refine V.needI ?_ ?_ | intro _)
 all_goals first
  | assumption
  | exact True.intro
  | exact Nat.zero_le _
  | (have h9:=okX_i (And.left ‹_›); exact h9)
  | exact q_cm ‹_›
  | exact q_ka ‹_›
  | exact q_kb ‹_›
  | exact Pp_r ‹_› ‹_›
  | exact Pp_r2 ‹_› ‹_›
  | exact Pp_mu ‹_› ‹_›
  | exact Pp_ct ‹_› ‹_› ‹_›
  | exact Pp_cg ‹_› ‹_›
  | exact Pp_qc ‹_›
  | exact Pp_v ‹_›
  | exact ⟨by decide,Pp_j ‹_› ‹_› ‹_› (by first | exact Pp_v ‹_› | exact Pp_ix ‹_› | exact zgt _ | exact bits_ok _ | exact casV_ok (Pp_v ‹_›) (zgt _)) (by first | exact .inl (by decide) | exact .inr (Pp_f ‹_› (by decide)) | exact .inr ‹_› | exact .inr (by omega)) (by first | exact Pp_v ‹_› | exact Pp_ix ‹_› | exact zgm (And.right ‹_›) | exact zgm ‹_› | exact ⟨by decide,by decide⟩)⟩
  | exact Pp_2 (And.right ‹_›) (by first | exact Pp_v ‹_› | exact Pp_ix ‹_› | exact zgm (And.right ‹_›) | exact zgm ‹_› | exact ⟨by decide,by decide⟩)
  | exact Pp_2d (And.right ‹_›) ‹_› (by first | exact Pp_v ‹_› | exact Pp_ix ‹_› | exact zgm (And.right ‹_›) | exact zgm ‹_› | exact ⟨by decide,by decide⟩)
  | exact Pp_2 ‹_› (by first | exact Pp_v ‹_› | exact Pp_ix ‹_› | exact zgm (And.right ‹_›) | exact zgm ‹_› | exact ⟨by decide,by decide⟩)
  | exact Pp_2d ‹_› ‹_› (by first | exact Pp_v ‹_› | exact Pp_ix ‹_› | exact zgm (And.right ‹_›) | exact zgm ‹_› | exact ⟨by decide,by decide⟩)
  | exact Pp_3 ‹_› (by first | exact Pp_v ‹_› | exact Pp_ix ‹_› | exact zgm (And.right ‹_›) | exact zgm ‹_› | exact ⟨by decide,by decide⟩)
  | exact Pp_i ‹_› (by decide) (by first | exact Pp_v ‹_› | exact Pp_ix ‹_› | exact zgm (And.right ‹_›) | exact zgm ‹_› | exact ⟨by decide,by decide⟩)
  | (exfalso; exact Pp_n1 (by with_reducible assumption) (by with_reducible assumption))
  | (exfalso; exact Pp_n2 (by with_reducible assumption) (by with_reducible assumption))
  | (exfalso; exact Pp_n3 (by with_reducible assumption) (by with_reducible assumption) (by with_reducible assumption))
  | exact q_di (q_n ‹_›) (And.left (And.right ‹_›))
  | exact q_ex (And.left (And.right ‹_›))
  | exact q_di (q_n ‹_›) (And.left ‹_›)
  | exact q_ex (And.left ‹_›)
  | exact ⟨by decide,by decide,Int.ofNat_le.2 (Nat.le_trans (by decide) (Pp_f ‹_› (by decide)))⟩
  | (refine ⟨by decide,by decide,?_⟩; simp only [Int.ofNat_eq_natCast]; omega)
  | exact ⟨by decide,by decide,Int.natCast_nonneg _⟩
  | exact ⟨by decide,rfl⟩
  | exact And.left ‹_›
  | exact And.left (And.right (by assumption:iPp _))
  | exact h.1
  | exact ⟨h.1,rfl⟩
  | exact Pp_0 ‹_› ⟨by decide,by decide⟩
  | (subst_vars; rfl)
  | exact q_nt (by with_reducible assumption)
  | exact q_nf (by with_reducible assumption)
  | exact beq_self_eq_true _
  | decide
  | exact Int.le_refl 0
  | exact ⟨v.m,trivial⟩
  | exact ⟨Nat.zero_le _,Nat.zero_le _⟩
  | trace_state
theorem vhPp {c:Cf} {v:Ev} {w t d:Int} {cf ln lc:Nat} {g:Nat->Int} (h:okMq c v):zad (vPp c v w t d cf ln lc g iPp (jPp 1) (jPp 2)):=
 verO_h (k:=16) (m:=1) (by decide) fun j hj=>by
  have a:=vhPpA (w:=w) (t:=t) (d:=d) (cf:=cf) (ln:=ln) (lc:=lc) (g:=g) h
  rcases (show j=0\/j=1\/j=2\/j=3\/j=4\/j=5\/j=6\/j=7\/j=8\/j=9\/j=10\/j=11\/j=12\/j=13\/j=14\/j=15 by omega) with rfl | rfl | rfl | rfl | rfl | rfl | rfl | rfl | rfl | rfl | rfl | rfl | rfl | rfl | rfl | rfl
  ·exact a.1
  ·exact a.2.1
  ·exact a.2.2.1
  ·exact a.2.2.2.1
  ·exact a.2.2.2.2.1
  ·exact a.2.2.2.2.2.1
  ·exact a.2.2.2.2.2.2.1
  ·exact a.2.2.2.2.2.2.2.1
  ·exact a.2.2.2.2.2.2.2.2.1
  ·exact a.2.2.2.2.2.2.2.2.2.1
  ·exact a.2.2.2.2.2.2.2.2.2.2.1
  ·exact a.2.2.2.2.2.2.2.2.2.2.2.1
  ·exact a.2.2.2.2.2.2.2.2.2.2.2.2.1
  ·exact a.2.2.2.2.2.2.2.2.2.2.2.2.2.1
  ·exact a.2.2.2.2.2.2.2.2.2.2.2.2.2.2.1
  ·exact a.2.2.2.2.2.2.2.2.2.2.2.2.2.2.2
noncomputable section
def cPp:List SV->Hp->Out (SV×Hp):=cMq 6 120 ppX hPp okMq
theorem cPp_ok:zab P fMt cPp:=cMq_ok fun c v a b d cf ln lc g=>zai cnPp_ok fun h=>vhPp h
end
end Go.Proofs.YtdpebeocepahbaaGreat.En
