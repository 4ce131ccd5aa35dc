/- Enter of the table, step by step with the reference's: what is asked. -/
import Derived.Test.YthbgfdcgakfbiaaGreatMEnLp
import Derived.Test.YthbgfdcgakfbiaaGreatMEnG
import Derived.Test.YthbgfdcgakfbiaaGreatMEg
import Derived.Test.YthbgfdcgakfbiaaGreatMW
import Derived.Test.YthbgfdcgakfbiaaGreatMV
import Derived.Test.YthbgfdcgakfbiaaGreatMEnLr
import Derived.Test.YthbgfdcgakfbiaaGreatMMd
set_option maxHeartbeats 64000000
set_option linter.unusedVariables false
set_option linter.unusedSimpArgs false
set_option maxRecDepth 100000
open Go.IntKind (i64 u64)
open Int renaming ofNat -> O
open Go.Proofs.YthbgfdcgakfbiaaGreat.Sx.V renaming need -> U, br -> zq, ok -> zw, any -> za
namespace Go.Proofs.YthbgfdcgakfbiaaGreat.En
open Go Go.RowKit Sx Cn Dc Ck Vc Md
noncomputable section
structure XEt where
 s:Int
 m:Mm
 now:Int
 lv:Int
 y:Lp
def findT (j:Nat) (ts:List TypeId):HL->Nat
 | []=>0
 | (k,b)::r=>match b with
  | .fam _ _ _ _ cs=>match Nat.beq cs.length j with
   | true=>k
   | false=>findT j ts r
  | .view _ _ cs=>match Nat.beq cs.length j with
   | true=>k
   | false=>findT j ts r
  | .own t _ _=>match mem t ts with
   | true=>k
   | false=>findT j ts r
  | _=>findT j ts r
def tEt:TypeId:=98
def etB (w t lv ln ins:SC):Blk:=.own 102 8 ([.kb false,.ki .i64 0,.ki .i64 0,w,t,lv,ln,ins].map some)
def fEt (w t ln lv:SC):List SC:=frR 15 ln z6 z6 z6 z6 w t z6 z6 z6 z6 lv zU zU zU zU
def du0:Blk:=.fam true 0 (fun _=>0) (fun _=>0) []
def du2:Blk:=.fam true 0 (fun _=>0) (fun _=>0) [.cu,.cu]
def inP (f:Nat) (s:St):Nat:=match zay (tmK 2 s) f s.H.h with
 | some (.ifc _ k _ _ _ _)=>k
 | _=>findT 0 [220] s.H.h
def inQ (f:Nat) (s:St):Nat:=match zay (inP f s) 7 s.H.h with
 | some (.ifc _ k _ _ _ _)=>k
 | _=>findT 2 [227,230] s.H.h
def shP (f g n:Nat) (s:St):Nat:=fN (tmK 2 s) fun k=>match zay k f s.H.h with
 | some (.ifc _ ki _ _ _ _)=>n+puN ki 7 s.H.h
 | _=>match ceI k g s.H.h with
  | some a=>a.toNat - 1
  | none=>99
def puB (bm:Int) (w l v:SC) (kj:Nat) (y:Lp) (i:Nat):List Blk:=[lpB w l v (psL i) (psI kj i),match i with
 | 0=>du2
 | _=>psB bm l v y i]
def puF (w l v:SC) (y:Lp) (i:Nat):List (List SC):=match i with
 | 0=>[]
 | _=>psF w l v y i
def puM (i:Nat):Nat:=match i with
 | 0=>1
 | i+1=>psM (i+1)+1
def etN (w t:SC) (bm:Int) (ki kj:Nat) (ma:List (List SC)->Nat->Nat->List Blk) (lv:Int) (y:Lp) (j:Nat):List Blk:=match j with
 | 0 | 1 | 2=>etB w t z6 (k6 (j+1)) .nilI::(ma [fEt w t (k6 (j+1)) z6] 1 y.cf++[du0,du2])
 | j+3=>etB w t (i6 lv) (k6 4) (.ifc tLp ki (.k 0) (.k 0) 0 8)::(ma (fEt w t (k6 4) (i6 lv)::puF w (i6 lv) t y j) (puM j) y.cf++puB bm w (i6 lv) t kj y j)
def laEt (c:Cf) (w t:Int) {X:Type} (gx:X->XEt) (sh:X->Nat) (rx:St->XEt->Option X) (I:X->Prop) (s:St):Option (LA X):=match maL 3 s with
 | some ma=>fN (inP 7 s) fun ki=>fN (inQ 7 s) fun kj=>laMt (fun x=>(gx x).m) (fun x=>(gx x).now) (fun x=>(gx x).s) [(tmK 2,false),(tmK 3,true),(frKi 3,false),(inP 7,false),(inQ 7,false)]
   (fun x=>etN (i6 w) (i6 t) (bmN c.W c.C c.H w) ki kj ma (gx x).lv (gx x).y (sh x))
   (fun q m now s=>fN (tmK 2 s) fun kx=>match ceS (tmK 3 s) 0 s.H.h with
    | some (_,_,cf)=>(match zay kx 7 s.H.h with
     | some (.ifc _ ki _ _ _ _)=>(match ceI kx 5 s.H.h,psR ki 7 (frKi 3 s) cf s.H.h with | some lv,some y=>rx s ⟨q,m,now,lv,y⟩ | _,_=>none)
     | _=>rx s ⟨q,m,now,0,⟨0,0,0,0,0,0,cf⟩⟩)
    | none=>none) I s
 | none=>none
def laEs (c:Cf) (w t:Int) (I:Nat×XEt->Prop):St->Option (LA (Nat×XEt)):=laEt c w t (fun x=>x.2) (fun x=>x.1) (fun s x=>fN (shP 7 6 3 s) fun n=>some (n,x)) I
def laEn (c:Cf) (w t:Int) (J:Nat->Int->XEt->Prop) (s:St):Option (LA (Nat×XEt)):=fN (shP 7 6 3 s) fun n=>fN (nx4 7 n 1) fun n1=>laCt (laEt c w t (fun x=>x.2) (fun x=>nx4 7 n x.1) (fun s x=>fN (shP 7 6 3 s - n) fun d=>some (d,x)) fun _=>True) (fun q x=>x.1=1/\J n1 q x.2) s
def laEc (c:Cf) (w t:Int) (J:Nat->Int->XEt->Prop) (s:St):Option (LA XEt):=fN (shP 7 6 3 s) fun n=>laCt (laEt c w t (fun x=>x) (fun _=>n) (fun _ x=>some x) fun _=>True) (J n) s
def cnEt:Con:=Con.add fRA cRA (Con.add fDi cDi (Con.add fSm cSm (Con.add fTw xTk (Con.add fLt xLt (Con.add fQw xQr (Con.add fRm xBr (Con.add fMk xMk (Con.add fRg xRg (Con.add fQu xQu (Con.add fLb xBl (Con.add fBit xBit (Con.add fCell xCell (conU con0)))))))))))))
theorem cnEt_ok:zak P cnEt:=.add cRA_ok (.add cDi_ok (.add cSm_ok (.add xTk_ok (.add xLt_ok (.add xQr_ok (.add xBr_ok (.add xMk_ok (.add xRg_ok (.add xQu_ok (.add xBl_ok (.add xBit_ok (.add xCell_ok (conU_ok zak.nil)))))))))))))
def etX:SC:=.ifc tEt 14 (.k 0) (.k 0) 0 8
def hEt (c:Cf) (v:Ev) (a b d:Int) (cf ln:Nat) (g:Nat->Int):HL:=hMt c v (etB (i6 a) (i6 b) z6 (k6 1) .nilI) (frL [fEt (i6 a) (i6 b) (k6 1) z6]) cf ln g
def avEt (c:Cf) (a b:Int) (I:Nat×XEt->Prop) (J1 J2:Nat->Int->XEt->Prop):AV:=.loopS 8 XEt [.renT 2,.ren (frKi 3),.newFam 0 [],.newFam 0 [.cu,.cu]] (laEs c a b I) (.cutS 16 1001 XEt (laEn c a b J1) .nil (.cut 18 XEt (laEc c a b J2) .nil (.cut 21 XEt (laEc c a b J2) .nil .nil))) .nil
def vEt (c:Cf) (v:Ev) (a b d:Int) (cf ln lc:Nat) (g:Nat->Int) (I:Nat×XEt->Prop) (J1 J2:Nat->Int->XEt->Prop):V:=verF P cnEt 6 8 fMt [] (avEt c a b I J1 J2) (argMq etX 20 ln lc) ⟨hEt c v a b d cf ln g,18,fun _=>True⟩ (yesF 18)
def vEtO (j:Nat) (c:Cf) (v:Ev) (a b d:Int) (cf ln lc:Nat) (g:Nat->Int) (I:Nat×XEt->Prop) (J1 J2:Nat->Int->XEt->Prop):V:=verO 4 2 j P cnEt 6 8 fMt [] (avEt c a b I J1 J2) (argMq etX 20 ln lc) ⟨hEt c v a b d cf ln g,18,fun _=>True⟩ (yesF 18)
end
end Go.Proofs.YthbgfdcgakfbiaaGreat.En
/- Enter: the conditions, printed by program. -/
namespace Go.Proofs.YthbgfdcgakfbiaaGreat.En
open Go Go.RowKit Sx Cn Dc Ck Vc Md
abbrev znet45 (a0:Lp) (k:V):V:=nN [(6,.lt2 0 1 0 1)] (U (O 0<=O 0/\O 0<=O 0/\O 0<=(↑a0.cf:Int)) (nN [(12,.lt2 0 1 0 1)] k))
abbrev znet1 (a0:Rk) (l:LP):LP:=(1,.pf (∀ (i:Nat),i < a0.n->a0.kl i<=a0.kl i) (by intros; exact Nat.le_refl _))::(1,.pf (∀ (i e:Nat),i < a0.n/\e < a0.kl i->a0.kd i e=a0.kd i e) (by intros; rfl))::l
abbrev znet4 (a0:Rk) (a1:Ev) (a2:Mm) (a3:XEt) (k:V):V:=nN (znet1 a0 []) (U (okCm (Cm.mk a1.n a2 a3.now a0 0 (Evs.mk (fun (i:Nat)=>O 0) (fun (i:Nat)=>O 0) (fun (i:Nat)=>O 0) (fun (i:Nat)=>O 0) fun (i:Nat)=>O 0))) k)
abbrev znet49 (a0:Rk) (a1:Ev) (a2:Mm) (a3:XEt) (k:V):V:=znet4 a0 a1 a2 a3 (nN [(3,.lt2 0 1 0 1)] k)
abbrev znet32 (a0:Rk) (a1:Rm) (l:LP):LP:=(1,.le 1 1)::(1,.pf (∀ (i:Nat),i < 1->a0.n<=a0.n) (by intros; exact Nat.le_refl _))::(1,.pf (∀ (i e:Nat),i < 1/\e < a0.n->a0.p e=a0.p e) (by intros; rfl))::(1,.pf (∀ (i e:Nat),i < 1/\e < a0.n->a0.pa e=a0.pa e) (by intros; rfl))::(1,.pf (∀ (i e:Nat),i < 1/\e < a0.n->a0.pc e=a0.pc e) (by intros; rfl))::(1,.pf (∀ (i e:Nat),i < 1/\e < a0.n->a0.lf e=a0.lf e) (by intros; rfl))::(1,.pf (∀ (i e:Nat),i < 1/\e < a0.n->a0.wt e=a0.wt e) (by intros; rfl))::(1,.pf (∀ (i e:Nat),i < 1/\e < a0.n->e=e) (by intros; rfl))::(1,.pf (∀ (i e:Nat),i < 1/\e < a0.n->a0.kl e=a0.kl e) (by intros; rfl))::(1,.pf (∀ (i e:Nat),i < 1/\e < a0.n->a1.k e=a1.k e) (by intros; rfl))::(1,.pf (∀ (i e:Nat),i < 1/\e < a0.n->a0.st e=a0.st e) (by intros; rfl))::(1,.le 1 1)::(1,.pf (∀ (i:Nat),i < 1->0<=0) (by intros; exact Nat.le_refl _))::(5,.pf (∀ (i e:Nat),i < 1/\e < 0->O 0=O 0) (by intros; rfl))::l
abbrev znet54 (a0:Rk) (a1:Rm) (l:LP):LP:=znet32 a0 a1 (qL a0.n::znet1 a0 (qL a0.n::l))
abbrev znet6 (l:LP):LP:=(1,.le 1 1)::(1,.pf (∀ (i:Nat),i < 1->1<=1) (by intros; exact Nat.le_refl _))::l
abbrev znet8 (a0:Ev) (a1:Rm) (a2:Mm) (l:LP):LP:=qE a0.n::qE a1.c::qE a2.lk::qE a2.lc::qE a2.lo::qE a2.ln::qE a2.ct::l
abbrev znet2 (a0:Ev) (a1:Rm) (a2:Mm) (k:V):V:=U (a0.n<=a0.n/\a0.n<=a1.c) (nN [(1,.pf (∀ (i e:Nat),i=0/\e < a0.n->a2.g e=a2.g e) (by intros; rfl))] k)
abbrev znet29 (a0:Ev) (a1:Rm) (a2:Mm) (k:V):V:=nN [(1,.le 1 1)] (znet2 a0 a1 a2 k)
abbrev znet7 (a0:Rm) (l:LP):LP:=qE a0.r::(1,.eq 0 0)::qE a0.e::l
abbrev zeg (a0:Rk) (a1:Rm) (l:LP):LP:=qE a0.n::znet7 a1 l
abbrev zdm (a0:Rk) (a1:Rm) (a2:Ev) (a3:Mm) (a4:XEt) (k:V):V:=nN (znet6 (zeg a0 a1 (znet8 a2 a1 a3 []))) (znet29 a2 a1 a3 (nN (qE a4.now::znet32 a0 a1 []) k))
abbrev zf7 (a0:Mm) (a1:Ev) (a2:Rm) (k:V):V:=nN [qE a0.ct] (znet29 a1 a2 a0 k)
abbrev znet78 (a0:Mm) (k:V):V:=U (decide (a0.ct > i64.wrap (a0.ct+O 1))=false) (nN [(6,.lt2 0 1 0 1)] k)
abbrev znets0 (y1:XEt) (v:Ev):V:=znet45 y1.y (zdm v.x v.a v y1.m y1 (nN (znet8 v v.b y1.m (qE y1.now::zeg v.x v.b [])) (znet29 v v.b y1.m (nN (znet54 v.x v.b []) (znet49 v.x v y1.m y1 (nN [qE v.n,qE v.a.c] (zf7 y1.m v v.a (znet78 y1.m (zdm v.x v.a v y1.m y1 (nN (znet8 v v.b y1.m (qE y1.now::zeg v.x v.b [])) (znet29 v v.b y1.m (nN (znet54 v.x v.b []) (znet4 v.x v y1.m y1 (U True zw))))))))))))))
abbrev znet9 (a0:Rm) (a1:Ev) (a2:Mm) (l:LP):LP:=qE a0.c::qL a1.n::qF a1.n a2.g::l
abbrev zf5 (a0:Ev) (a1:Rm) (a2:Mm) (l:LP):LP:=znet8 a0 a1 a2 (znet9 a1 a0 a2 l)
abbrev zcy (a0:Cf) (l:LP):LP:=qE a0.W::qE a0.L::qE a0.C::qE a0.T::qE a0.D::qE a0.H::qE a0.B::qE a0.A::qE a0.P::qE a0.nP::qE a0.rc::qE a0.nU::qE a0.cu::l
abbrev zff (a0:Ev) (a1:Rm) (a2:Mm) (a3:Cf) (l:LP):LP:=zf5 a0 a1 a2 (zcy a3 l)
abbrev zdx (a0:Ev) (a1:Rm) (a2:Mm) (a3:Cf) (a4:Rm) (l:LP):LP:=zff a0 a1 a2 a3 (znet8 a0 a4 a2 l)
abbrev znet15 (a0:Lp) (l:LP):LP:=qE a0.cf::qE a0.cf::l
abbrev zby (a0:Lp) (a1 a2:Int) (l:LP):LP:=znet15 a0 ((1,.le 1 1)::qE a1::qE a2::l)
abbrev zc6 (a0:Rm) (a1:Ev) (a2:Mm) (l:LP):LP:=znet7 a0 (znet9 a0 a1 a2 l)
abbrev znet3 (l:LP):LP:=(1,.le 0 0)::(1,.pf (∀ (i:Nat),i < 0->0<=0) (by intros; exact Nat.le_refl _))::l
abbrev znet37 (l:LP):LP:=znet3 (znet3 l)
abbrev znet59 (a0:Rk) (a1:Rm) (a2:Ev) (a3:Mm) (k:V):V:=nN (qE a0.n::zc6 a1 a2 a3 (znet37 [(1,.le 0 1)])) (U (∀ (i:Nat),i < 0->0<=a0.n) (nN [(1,.le 0 1),(1,.pf (∀ (i:Nat),i < 0->0<=0) (by intros; exact Nat.le_refl _))] k))
abbrev zeq (a0:XEt) (a1:Ev) (l:LP):LP:=qE a0.now::qE a1.dr::l
abbrev znet14 (a0:Ev) (a1:Rm) (a2:Mm) (a3:XEt) (l:LP):LP:=znet8 a0 a1 a2 (zeq a3 a0 l)
abbrev zf6 (a0:Ev) (a1:Rm) (a2:Mm) (a3:XEt) (a4:Rk) (k:V):V:=nN (znet14 a0 a1 a2 a3 []) (znet59 a4 a1 a0 a2 k)
abbrev znet5 (a0:XEt) (k:V):V:=U ((O 200 - i64.wrap (a0.s+O 1)).toNat < (O 200 - a0.s).toNat) (nN [qE (i64.wrap (a0.s+O 1))] k)
abbrev znet61 (a0:Nat×XEt->Prop) (a1:XEt) (a2:Mm) (a3:XEt) (a4:Lp) (k:V):V:=U (a0 (1,XEt.mk (i64.wrap (a1.s+O 1)) a2 a3.now (O 0) (Lp.mk (O 0) (O 0) (O 0) (O 0) (O 0) (O 0) a4.cf))) (znet5 a1 k)
abbrev znet62 (a0:Nat×XEt->Prop) (a1:XEt) (a2:Mm) (a3:XEt) (a4:Lp) (k:V):V:=U (a0 (2,XEt.mk (i64.wrap (a1.s+O 1)) a2 a3.now (O 0) (Lp.mk (O 0) (O 0) (O 0) (O 0) (O 0) (O 0) a4.cf))) (znet5 a1 k)
abbrev znet65 (l:LP):LP:=(7,.lt2 0 1 0 1)::(12,.lt 0 1)::l
abbrev znet12 (a0:XEt) (a1:Nat) (k:V):V:=U (O 0<=a0.s/\a0.s < (↑a1:Int)) (U (0 < 1/\0+a0.s.toNat < a1) (U (0 < 1/\0+a0.s.toNat < a1) k))
abbrev zg5 (a0:XEt) (a1:Nat) (k:V):V:=znet12 a0 a1 (nN [(1,.neI 13 0)] k)
abbrev znet66 (a0:Rk) (a1:Rm) (a2:Ev) (a3 a4:Mm) (k:V):V:=nN (zeg a0 a1 [(1,.le 1 1)]) (U (a2.n<=a2.n/\a2.n<=a1.c) (U (∀ (i e:Nat),i=0/\e < a2.n->a3.g e=a4.g e) (nN (znet54 a0 a1 []) k)))
abbrev zf9 (a0:Rk) (a1:Rm) (a2:Ev) (a3 a4:Mm) (a5:XEt) (k:V):V:=znet66 a0 a1 a2 a3 a4 (znet49 a0 a2 a4 a5 k)
abbrev zg0 (a0:Ev) (l:LP):LP:=(9,.lt2 0 1 0 1)::qE a0.n::l
abbrev znet18 (a0:Ev) (a1:Rm) (a2:Mm) (a3:Cf) (a4:Rm) (a5:XEt) (l:LP):LP:=zff a0 a1 a2 a3 (znet14 a0 a4 a2 a5 l)
abbrev zg1 (a0:Ev) (a1:Rm) (a2:Mm) (a3:Cf) (a4:Rm) (a5:XEt) (a6:Rk) (k:V):V:=nN (znet18 a0 a1 a2 a3 a4 a5 []) (znet59 a6 a4 a0 a2 k)
abbrev zfr (a0:Ev) (a1:Rm) (a2 a3:Mm) (k:V):V:=nN [(1,.le 1 1)] (znet2 a0 a1 a2 (U (decide (a2.ct > i64.wrap (a3.ct+O 1))=false) k))
abbrev zcd (a0:Rm) (a1 a2:Mm) (k:V):V:=nN [qE a0.c] (U (a1.lk=a2.lk) (U (a1.lc=a2.lc) (U (a1.lo=a2.lo) (U (a1.ln=a2.ln) (U (a1.ct=a2.ct) k)))))
abbrev znet81 (l:LP):LP:=(7,.lt2 0 1 0 1)::(6,.lt 0 1)::l
abbrev zgd (k:V):V:=U (∀ (i:Nat),0=0\/0=0) (U (∀ (i:Nat),0<=0/\0<=0) k)
abbrev znet36 (k:V):V:=zgd (zgd k)
abbrev zce (a0 a1:Int) (a2:Lp) (k:V):V:=nN (qE a0::qE a1::zby a2 a0 a1 []) (znet36 k)
abbrev zfv (a0:XEt) (a1:Nat) (k:V):V:=znet12 a0 a1 (nN [(1,.neI 3 0)] k)
abbrev zg4 (a0:XEt) (a1:Nat) (a2:Nat->Int) (k:V):V:=zfv a0 a1 (znet12 a0 a1 (nN [(1,.neI 7 0),qE (i64.wrap ((a2 (0+a0.s.toNat)).tdiv (O 3))),qE (i64.wrap ((a2 (0+a0.s.toNat)).tdiv (O 7)))] k))
abbrev znet26 (k:Bool->V):V:=zgd (za Bool (fun (x:Bool)=>True) fun v0=>k v0)
abbrev znet84 (k:Bool->V):V:=zgd (znet26 fun v0=>k v0)
abbrev znet85 (a0:Lp) (k:V):V:=znet45 a0 (U True (U (false=true) k))
abbrev zgy (a0:Ev) (a1:Mm) (k:Mm->V):V:=U (a0.n<=1000000/\okMw (O 1000000000) a1) (nA (okMw (a1.ct+O 1)) fun v0=>k v0)
abbrev zcq (a0:XEt) (a1:Ev) (l:LP):LP:=qE (i64.wrap (a0.now+O 1))::qE a1.dr::l
abbrev znet22 (a0:Nat->Int->XEt->Prop) (a1:XEt) (a2:Mm) (a3:XEt) (a4:Lp) (a5:Ev) (a6:Rm) (a7:Cf) (a8:Rm) (k:V):V:=U (a0 1 a1.s (XEt.mk a1.s a2 a3.now (O 0) (Lp.mk (O 0) (O 0) (O 0) (O 0) (O 0) (O 0) a4.cf))) (nN (znet18 a5 a6 a2 a7 a8 a3 []) k)
abbrev znet23 (a0:Nat->Int->XEt->Prop) (a1:XEt) (a2:Mm) (a3:XEt) (a4:Lp) (a5:Ev) (a6:Rm) (a7:Cf) (a8:Rm) (k:V):V:=U (a0 2 a1.s (XEt.mk a1.s a2 a3.now (O 0) (Lp.mk (O 0) (O 0) (O 0) (O 0) (O 0) (O 0) a4.cf))) (nN (znet18 a5 a6 a2 a7 a8 a3 []) k)
abbrev zef (a0:Rk) (a1:Rm) (a2:Ev) (a3:Mm) (a4:XEt) (l:LP):LP:=qE a0.n::zc6 a1 a2 a3 (zeq a4 a2 l)
abbrev zb1 (a0:Ev) (a1:Rm) (a2:Mm) (a3:Cf) (a4:Rm) (a5:XEt) (a6:Rk) (l:LP):LP:=znet18 a0 a1 a2 a3 a4 a5 (zef a6 a4 a0 a2 a5 l)
abbrev znet27 (a0:Nat×XEt->Prop) (a1:Mm) (a2:Ev) (a3:Nat) (k:V):V:=nN [(7,.lt2 0 1 0 1)] (U (a0 (0,XEt.mk (O 0) a1 a2.now (O 0) (Lp.mk (O 0) (O 0) (O 0) (O 0) (O 0) (O 0) a3))) k)
abbrev znet34 (a0:Ev) (a1 a2:Mm) (a3:XEt) (k:V):V:=U (∀ (e:Nat),e < a0.n->a1.g e=a2.g e) (nN (zeq a3 a0 []) k)
abbrev znet35 (a0:Nat×XEt->Prop) (k:Bool->V):V:=U (∀ (x:Nat×XEt),a0 x->x.fst < 8) (za Bool (fun (x:Bool)=>True) fun v0=>k v0)
theorem vEt0_eq (c:Cf) (v:Ev) (a b d:Int) (cf ln lc:Nat) (g:Nat->Int) (I:Nat×XEt->Prop) (J1 J2:Nat->Int->XEt->Prop):V.pr (.b (.b (.b (.b (.b (.t (.f (.f .z))) (.t (.t (.b .z (.f .z))))) (.f (.f .z))) .z) .z) (.b (.b (.b (.b (.b (.b .z (.f .z)) .z) .z) .z) .z) .z)) (vEtO 0 c v a b d cf ln lc g I J1 J2)=
 znet27 I v.m v cf (nN ((1,.eqI 0 0)::zdx v v.a v.m c v.b (qE v.now::qE v.dr::qE v.x.n::zc6 v.b v v.m [qE v.now,qE v.dr,qE a,qE b,qE cf,qE cf,(1,.le 1 1),qE a,qE b])) (znet36 (znet35 I fun y0=>zq y0 (za XEt (fun (x:XEt)=>I (0,x)) fun y1=>zq (decide (y1.s < O 20)) (nN (zb1 v v.a y1.m c v.b y1 v.x (qE a::qE b::zby y1.y a b [])) (znet84 fun y2=>zq y2 (nN (zg0 v [qE v.a.c]) (zf7 y1.m v v.a (zq (decide (b >= O 0)) (nN [(4,.lt2 0 1 0 1)] (zq (!decide (b < c.T)) (nN (znet81 (znet65 [])) (U (decide (b >= O 0)=true) (U (decide (b < c.T)=false) (znets0 y1 v)))) (nN [(19,.lt2 0 1 0 1),qE c.W,qE c.L,qE c.C,qE c.T,qE c.D,qE c.H,qE (lS c),qE (lE c),qE (lB c),qE (lQ c),qE (lT c),qE b,(1,.eqI 4 4)] (U (okYn c.W c.L c.C c.T c.D c.H/\lT c=lTn c.W c.L c.C c.D c.H/\O 0<=O 4/\O 4<=O 4) (nN ((6,.lt2 0 1 0 1)::qE (tkN c.W c.L c.C c.T c.D c.H b (O 4))::qE (u64.wrap y1.now)::zf5 v v.a y1.m [qX (y1.m.acc v.n (O 2) (tkN c.W c.L c.C c.T c.D c.H b (O 4)) (u64.wrap y1.now))]) (za Mm (fun (m':Mm)=>m'=y1.m.acc v.n (O 2) (tkN c.W c.L c.C c.T c.D c.H b (O 4)) (u64.wrap y1.now)) fun y3=>nN (znet81 (znet65 [])) (U (decide (b >= O 0)=true) (U (decide (b < c.T)=true) (zq (!decide (b < (↑v.x.n:Int))) (znet85 y1.y zw) (nN ((6,.lt 0 1)::(16,.lt2 0 1 0 1)::zcy c (qE b::(1,.eqI 4 4)::znet37 [])) (U (okYn c.W c.L c.C c.T c.D c.H/\O 0<=O 4/\O 4<=O 4) (nN ((3,.lt2 0 1 0 1)::qE (tkN c.W c.L c.C c.T c.D c.H b (O 4))::qE (u64.wrap y1.now)::(1,.eqI 0 0)::zcy c []) (zf6 v v.b y1.m y1 v.x (nN [qX (y1.m.acc v.n (O 2) (tkN c.W c.L c.C c.T c.D c.H b (O 4)) (u64.wrap y1.now))] (za Mm (fun (m':Mm)=>m'=y1.m.acc v.n (O 2) (tkN c.W c.L c.C c.T c.D c.H b (O 4)) (u64.wrap y1.now)) fun y4=>nN [(6,.lt 0 1)] (zdm v.x v.a v y3 y1 (nN [qE v.n] (zcd v.b y4 y3 (nN [qE y1.now] (zf9 v.x v.b v y4 y3 y1 (nN [qE v.n,qE v.a.c,qE y3.ct] (zfr v v.a y3 y1.m (U (1=1/\J1 1 y1.s (XEt.mk y1.s y3 y1.now (O 0) (Lp.mk (O 0) (O 0) (O 0) (O 0) (O 0) (O 0) y1.y.cf))) (nN (zff v v.a y3 c [qE v.n]) (zcd v.b y4 y3 (nN (zeq y1 v (zeg v.x v.b [qE v.b.c,qL v.n])) (znet34 v y4 y3 y1 (zce a b y1.y zw)))))))))))))))))))))))))))) (nN (znet81 (znet65 [])) (U (decide (b >= O 0)=false) (znets0 y1 v)))))) (U (∀ (x_2:Nat×XEt),x_2.fst=1/\J1 1 y1.s x_2.snd->x_2.fst=1) (za XEt (fun (x_2:XEt)=>1=1/\J1 1 y1.s x_2) fun y3=>nN (zb1 v v.a y3.m c v.b y3 v.x (qE a::qE b::zby y3.y a b [])) (znet84 fun y4=>zq y4 (zq (decide (y1.s < (↑ln:Int))) (zfv y1 ln (zq ((g (0+y1.s.toNat)).tmod (O 3) == O 1) (zg4 y1 ln g (nN (znet6 []) (zg1 v v.a y3.m c v.b y3 v.x (zgy v y3.m fun y5=>znet22 J2 y1 y5 y3 y3.y v v.a c v.b (nN (zef v.x v.b v y5 y3 []) (zce a b y3.y zw)))))) (znet22 J2 y1 y3.m y3 y3.y v v.a c v.b (nN (zef v.x v.b v y3.m y3 []) (zce a b y3.y zw))))) (znet22 J2 y1 y3.m y3 y3.y v v.a c v.b (nN (zef v.x v.b v y3.m y3 []) (zce a b y3.y zw)))) (za XEt (J2 1 y1.s) fun y5=>nN (zb1 v v.a y5.m c v.b y5 v.x (qE a::qE b::zby y5.y a b [])) (znet84 fun y6=>zq y6 (zq (decide (y1.s < (↑ln:Int))) (zg5 y1 ln (zq ((g (0+y1.s.toNat)).tmod (O 13) == O 5) (nN [(3,.lt2 0 1 0 1)] (U (J2 1 y1.s (XEt.mk y1.s y5.m (i64.wrap (y5.now+O 1)) (O 0) (Lp.mk (O 0) (O 0) (O 0) (O 0) (O 0) (O 0) y5.y.cf))) (nN (zdx v v.a y5.m c v.b (zcq y5 v (qE v.x.n::zc6 v.b v y5.m (zcq y5 v [])))) (zce a b y5.y zw)))) (znet22 J2 y1 y5.m y5 y5.y v v.a c v.b (nN (zef v.x v.b v y5.m y5 []) (zce a b y5.y zw))))) (znet22 J2 y1 y5.m y5 y5.y v v.a c v.b (nN (zef v.x v.b v y5.m y5 []) (zce a b y5.y zw)))) (za XEt (J2 1 y1.s) fun y7=>zq (y1.s == O 2) (znet61 I y1 y7.m y7 y7.y (nN (zb1 v v.a y7.m c v.b y7 v.x []) (zce a b y7.y zw))) (znet61 I y1 y7.m y7 y7.y (nN (zb1 v v.a y7.m c v.b y7 v.x []) (zce a b y7.y zw))))))))))) (U True zw)) (za Bool (fun (x:Bool)=>True) fun y1=>zq y1 (za XEt (fun (x:XEt)=>I (1,x)) fun y2=>zq (decide (y2.s < O 20)) (nN (zb1 v v.a y2.m c v.b y2 v.x (qE a::qE b::zby y2.y a b [])) (znet84 fun y3=>zq y3 (nN (zg0 v [qE v.a.c]) (zf7 y2.m v v.a (nN [(19,.lt2 0 1 0 1),qE c.W,qE c.L,qE c.C,qE c.T,qE c.D,qE c.H,qE (lS c),qE (lE c),qE (lB c),qE (lQ c),qE (lT c),qE b,(1,.eqI 0 0)] (U (okYn c.W c.L c.C c.T c.D c.H/\lT c=lTn c.W c.L c.C c.D c.H/\O 0<=O 0/\O 0<=O 4) (nN (qE (tkN c.W c.L c.C c.T c.D c.H b (O 0))::(1,.eqI 1 1)::zf5 v v.a y2.m [qX (y2.m.acc v.n (O 2) (tkN c.W c.L c.C c.T c.D c.H b (O 0)) (O 1))]) (za Mm (fun (m':Mm)=>m'=y2.m.acc v.n (O 2) (tkN c.W c.L c.C c.T c.D c.H b (O 0)) (O 1)) fun y4=>nN (znet81 (znet65 [])) (zq (decide (b >= O 0)) (zq (decide (b < c.T)) (zq (!decide (b < (↑v.x.n:Int))) (znet85 y2.y zw) (nN ((6,.lt 0 1)::(16,.lt2 0 1 0 1)::zcy c (qE b::(1,.eqI 0 0)::znet37 [])) (U (okYn c.W c.L c.C c.T c.D c.H/\O 0<=O 0/\O 0<=O 4) (nN (qE (tkN c.W c.L c.C c.T c.D c.H b (O 0))::(1,.eqI 1 1)::(1,.eqI 0 0)::zcy c []) (zf6 v v.b y2.m y2 v.x (nN [qX (y2.m.acc v.n (O 2) (tkN c.W c.L c.C c.T c.D c.H b (O 0)) (O 1))] (za Mm (fun (m':Mm)=>m'=y2.m.acc v.n (O 2) (tkN c.W c.L c.C c.T c.D c.H b (O 0)) (O 1)) fun y5=>nN [(6,.lt 0 1)] (zdm v.x v.a v y4 y2 (nN [qE v.n] (zcd v.b y5 y4 (nN [qE y2.now] (zf9 v.x v.b v y5 y4 y2 (nN [qE v.n,qE v.a.c,qE y4.ct] (zfr v v.a y4 y2.m (U (1=1/\J1 2 y2.s (XEt.mk y2.s y4 y2.now (O 0) (Lp.mk (O 0) (O 0) (O 0) (O 0) (O 0) (O 0) y2.y.cf))) (nN (zff v v.a y4 c [qE v.n]) (zcd v.b y5 y4 (nN (zeq y2 v (zeg v.x v.b [qE v.b.c,qL v.n])) (znet34 v y5 y4 y2 (zce a b y2.y zw)))))))))))))))))))) (znet85 y2.y zw)) (znet85 y2.y zw)))))))) (U (∀ (x_2:Nat×XEt),x_2.fst=1/\J1 2 y2.s x_2.snd->x_2.fst=1) (za XEt (fun (x_2:XEt)=>1=1/\J1 2 y2.s x_2) fun y4=>nN (zb1 v v.a y4.m c v.b y4 v.x (qE a::qE b::zby y4.y a b [])) (znet84 fun y5=>zq y5 (zq (decide (y2.s < (↑ln:Int))) (zfv y2 ln (zq ((g (0+y2.s.toNat)).tmod (O 3) == O 1) (zg4 y2 ln g (nN (znet6 []) (zg1 v v.a y4.m c v.b y4 v.x (zgy v y4.m fun y6=>znet23 J2 y2 y6 y4 y4.y v v.a c v.b (nN (zef v.x v.b v y6 y4 []) (zce a b y4.y zw)))))) (znet23 J2 y2 y4.m y4 y4.y v v.a c v.b (nN (zef v.x v.b v y4.m y4 []) (zce a b y4.y zw))))) (znet23 J2 y2 y4.m y4 y4.y v v.a c v.b (nN (zef v.x v.b v y4.m y4 []) (zce a b y4.y zw)))) (za XEt (J2 2 y2.s) fun y6=>nN (zb1 v v.a y6.m c v.b y6 v.x (qE a::qE b::zby y6.y a b [])) (znet84 fun y7=>zq y7 (zq (decide (y2.s < (↑ln:Int))) (zg5 y2 ln (zq ((g (0+y2.s.toNat)).tmod (O 13) == O 5) (nN [(3,.lt2 0 1 0 1)] (U (J2 2 y2.s (XEt.mk y2.s y6.m (i64.wrap (y6.now+O 1)) (O 0) (Lp.mk (O 0) (O 0) (O 0) (O 0) (O 0) (O 0) y6.y.cf))) (nN (zdx v v.a y6.m c v.b (zcq y6 v (qE v.x.n::zc6 v.b v y6.m (zcq y6 v [])))) (zce a b y6.y zw)))) (znet23 J2 y2 y6.m y6 y6.y v v.a c v.b (nN (zef v.x v.b v y6.m y6 []) (zce a b y6.y zw))))) (znet23 J2 y2 y6.m y6 y6.y v v.a c v.b (nN (zef v.x v.b v y6.m y6 []) (zce a b y6.y zw)))) (za XEt (J2 2 y2.s) fun y8=>zq (y2.s == O 2) (znet62 I y2 y8.m y8 y8.y (nN (zb1 v v.a y8.m c v.b y8 v.x []) (zce a b y8.y zw))) (znet62 I y2 y8.m y8 y8.y (nN (zb1 v v.a y8.m c v.b y8 v.x []) (zce a b y8.y zw))))))))))) (U True zw)) zw)))):=by kernel_rfl
abbrev znet42 (a0 a1:Int) (a2:XEt) (a3:Lp) (l:LP):LP:=qE a0::qE a0::qE a1::qE a1::qE a2.lv::qE a1::qE a2.lv::qE a3.x::qE a3.z::l
abbrev zfd (a0:Lp) (l:LP):LP:=qE a0.t::qE a0.b::qE a0.r::qE a0.c::l
abbrev znet41 (a0 a1:Int) (a2:XEt) (a3:Lp) (l:LP):LP:=qE a0::qE a1::qE a2.lv::znet15 a3 ((1,.le 3 3)::zfd a3 l)
abbrev znet46 (a0:Ev) (a1:Rm) (a2:Mm) (a3:Cf) (a4:Rm) (a5:XEt) (a6:Rk) (a7 a8:Int) (a9:Lp) (l:LP):LP:=zb1 a0 a1 a2 a3 a4 a5 a6 (znet41 a7 a8 a5 a9 (znet42 a7 a8 a5 a9 (qE a7::qE a5.lv::qE a8::l)))
abbrev za8 (a0:Ev) (a1:Rm) (a2:Mm) (a3:Cf) (a4:Rm) (a5:XEt) (a6:Rk) (a7 a8:Int) (a9:Lp) (l:LP):LP:=znet46 a0 a1 a2 a3 a4 a5 a6 a7 a8 a9 (zfd a9 l)
abbrev znet53 (k:Nat->V):V:=U (2+1<=9223372036854775807/\(2+1) * 160<=140737488355328) (za Nat (fun (x:Nat)=>2+1<=x) fun v0=>k v0)
abbrev znet55 (a0:Nat×XEt->Prop) (a1 a2:XEt) (a3:Lp) (k:V):V:=U (a0 (3,{ a1 with s:=i64.wrap (a2.s+O 1),y:=Lp.mk (O 0) (O 0) (O 0) (O 0) (O 0) (O 0) a3.cf })) (znet5 a2 k)
abbrev zf2 (k:V):V:=U (2 < 2+1) (U (2 < 2+1) k)
abbrev znet56 (k:V):V:=U (0 < 1/\2 < 2+1) (zf2 k)
abbrev znet64 (a0 a1:Int) (a2:XEt) (a3:Lp) (l:LP):LP:=znet41 a0 a1 a2 a3 (znet42 a0 a1 a2 a3 l)
abbrev znet71 (k:V):V:=U (1 < 1+1) (U (1 < 1+1) k)
abbrev znet86 (k:V):V:=znet56 (U (2 < 2+1) k)
abbrev zga (a0:Lp) (k:Bool->V):V:=nN [qE a0.x] (za Bool (fun (x:Bool)=>True) fun v0=>k v0)
abbrev znet33 (a0:Nat->Int->XEt->Prop) (a1 a2:XEt) (a3:Lp) (a4:Ev) (a5:Rm) (a6:Mm) (a7:Cf) (a8:Rm) (a9:Rk) (k:V):V:=U (a0 3 a1.s { a2 with s:=a1.s,y:=Lp.mk (O 0) (O 0) (O 0) (O 0) (O 0) (O 0) a3.cf }) (nN (zb1 a4 a5 a6 a7 a8 a2 a9 []) k)
abbrev znet40 (k:V):V:=U (0 < 1/\1 < 1+1) (U (0 < 1/\1 < 1+1) k)
theorem vEt1_eq (c:Cf) (v:Ev) (a b d:Int) (cf ln lc:Nat) (g:Nat->Int) (I:Nat×XEt->Prop) (J1 J2:Nat->Int->XEt->Prop):V.pr (.b (.b (.b (.b (.b (.b .z (.f .z)) .z) .z) .z) .z) (.b (.b (.b (.f .z) .z) .z) .z)) (vEtO 1 c v a b d cf ln lc g I J1 J2)=
 znet27 I v.m v cf (nN ((1,.eqI 0 0)::zdx v v.a v.m c v.b (qE v.now::qE v.dr::qE v.x.n::zc6 v.b v v.m [qE v.now,qE v.dr,qE a,qE b,qE cf,qE cf,(1,.le 1 1),qE a,qE b])) (znet36 (znet35 I fun y0=>zq y0 (za XEt (fun (x:XEt)=>I (2,x)) fun y1=>zq (decide (y1.s < O 20)) (nN (zb1 v v.a y1.m c v.b y1 v.x (qE a::qE b::zby y1.y a b [])) (znet84 fun y2=>zq y2 (nN (zg0 v [qE v.a.c]) (zf7 y1.m v v.a (nN [(19,.lt2 0 1 0 1),qE c.W,qE c.L,qE c.C,qE c.T,qE c.D,qE c.H,qE (lS c),qE (lE c),qE (lB c),qE (lQ c),qE (lT c),qE b,(1,.eqI 1 1)] (U (okYn c.W c.L c.C c.T c.D c.H/\lT c=lTn c.W c.L c.C c.D c.H/\O 0<=O 1/\O 1<=O 4) (nN (qE (tkN c.W c.L c.C c.T c.D c.H b (O 1))::zf5 v v.a y1.m [qX (y1.m.acc v.n (O 1) (tkN c.W c.L c.C c.T c.D c.H b (O 1)) (y1.m.val v.n (tkN c.W c.L c.C c.T c.D c.H b (O 1))))]) (za Mm (fun (m':Mm)=>m'=y1.m.acc v.n (O 1) (tkN c.W c.L c.C c.T c.D c.H b (O 1)) (y1.m.val v.n (tkN c.W c.L c.C c.T c.D c.H b (O 1)))) fun y3=>nN ((20,.lt2 0 1 0 1)::(6,.lt 0 1)::znet65 []) (zq (decide (b >= O 0)) (zq (decide (b < c.T)) (zq (!decide (b < (↑v.x.n:Int))) (znet85 y1.y zw) (nN ((6,.lt 0 1)::(16,.lt2 0 1 0 1)::zcy c (qE b::(1,.eqI 1 1)::znet37 [])) (U (okYn c.W c.L c.C c.T c.D c.H/\O 0<=O 1/\O 1<=O 4) (nN (qE (tkN c.W c.L c.C c.T c.D c.H b (O 1))::(2,.eqI 0 0)::zcy c []) (zf6 v v.b y1.m y1 v.x (nN [qX (y1.m.acc v.n (O 1) (tkN c.W c.L c.C c.T c.D c.H b (O 1)) (y1.m.val v.n (tkN c.W c.L c.C c.T c.D c.H b (O 1))))] (za Mm (fun (m':Mm)=>m'=y1.m.acc v.n (O 1) (tkN c.W c.L c.C c.T c.D c.H b (O 1)) (y1.m.val v.n (tkN c.W c.L c.C c.T c.D c.H b (O 1)))) fun y4=>nN [(2,.lt2 0 1 0 1),(7,.lt 0 1)] (zdm v.x v.a v y3 y1 (nN [qE v.n] (zcd v.b y4 y3 (nN [qE y1.now] (zf9 v.x v.b v y4 y3 y1 (nN [qE v.n,qE v.a.c,qE y3.ct] (zfr v v.a y3 y1.m (U (1=1/\J1 3 y1.s (XEt.mk y1.s y3 y1.now (i64.wrap (y1.m.val v.n (tkN c.W c.L c.C c.T c.D c.H b (O 1)))) (Lp.mk (O 0) (O 0) (O 0) (O 0) (O 0) (O 0) y1.y.cf))) (nN (zff v v.a y3 c [qE v.n]) (zcd v.b y4 y3 (nN (zeq y1 v (zeg v.x v.b [qE v.b.c,qL v.n])) (znet34 v y4 y3 y1 (nN (qE a::qE b::qE (i64.wrap (y1.m.val v.n (tkN c.W c.L c.C c.T c.D c.H b (O 1))))::zby y1.y a b [qE (i64.wrap (y1.m.val v.n (tkN c.W c.L c.C c.T c.D c.H b (O 1)))),qE a,qE (i64.wrap (y1.m.val v.n (tkN c.W c.L c.C c.T c.D c.H b (O 1)))),qE b]) (zgd zw))))))))))))))))))))) (znet85 y1.y zw)) (znet85 y1.y zw)))))))) (U (∀ (x_2:Nat×XEt),x_2.fst=1/\J1 3 y1.s x_2.snd->x_2.fst=1) (za XEt (fun (x_2:XEt)=>1=1/\J1 3 y1.s x_2) fun y3=>nN (zb1 v v.a y3.m c v.b y3 v.x (qE a::qE b::qE y3.lv::zby y3.y a b [qE y3.lv,qE a,qE y3.lv,qE b])) (znet26 fun y4=>zq y4 (zq (decide (y1.s < (↑ln:Int))) (zfv y1 ln (zq ((g (0+y1.s.toNat)).tmod (O 3) == O 1) (zg4 y1 ln g (nN (znet6 []) (zg1 v v.a y3.m c v.b y3 v.x (zgy v y3.m fun y5=>U (J2 3 y1.s (XEt.mk y1.s y5 y3.now y3.lv (Lp.mk (O 0) (O 0) (O 0) (O 0) (O 0) (O 0) y3.y.cf))) (nN (zb1 v v.a y5 c v.b y3 v.x (qE a::qE b::qE y3.lv::zby y3.y a b [qE y3.lv,qE a,qE y3.lv,qE b])) (zgd zw)))))) (znet33 J2 y1 y3 y3.y v v.a y3.m c v.b v.x (nN (qE a::qE b::qE y3.lv::zby y3.y a b [qE y3.lv,qE a,qE y3.lv,qE b]) (zgd zw))))) (znet33 J2 y1 y3 y3.y v v.a y3.m c v.b v.x (nN (qE a::qE b::qE y3.lv::zby y3.y a b [qE y3.lv,qE a,qE y3.lv,qE b]) (zgd zw)))) (za XEt (J2 3 y1.s) fun y5=>nN (zb1 v v.a y5.m c v.b y5 v.x (qE a::qE b::qE y5.lv::zby y5.y a b [qE y5.lv,qE a,qE y5.lv,qE b])) (znet26 fun y6=>zq y6 (zq (decide (y1.s < (↑ln:Int))) (zg5 y1 ln (zq ((g (0+y1.s.toNat)).tmod (O 13) == O 5) (nN [(3,.lt2 0 1 0 1)] (U (J2 3 y1.s (XEt.mk y1.s y5.m (i64.wrap (y5.now+O 1)) y5.lv (Lp.mk (O 0) (O 0) (O 0) (O 0) (O 0) (O 0) y5.y.cf))) (nN (zdx v v.a y5.m c v.b (zcq y5 v (qE v.x.n::zc6 v.b v y5.m (zcq y5 v (qE a::qE b::qE y5.lv::zby y5.y a b [qE y5.lv,qE a,qE y5.lv,qE b]))))) (zgd zw)))) (znet33 J2 y1 y5 y5.y v v.a y5.m c v.b v.x (nN (qE a::qE b::qE y5.lv::zby y5.y a b [qE y5.lv,qE a,qE y5.lv,qE b]) (zgd zw))))) (znet33 J2 y1 y5 y5.y v v.a y5.m c v.b v.x (nN (qE a::qE b::qE y5.lv::zby y5.y a b [qE y5.lv,qE a,qE y5.lv,qE b]) (zgd zw)))) (za XEt (J2 3 y1.s) fun y7=>zq (y1.s == O 2) (znet55 I y7 y1 y7.y (nN (zb1 v v.a y7.m c v.b y7 v.x (qE a::qE b::qE y7.lv::zby y7.y a b [qE y7.lv,qE a,qE y7.lv,qE b])) (zgd zw))) (znet55 I y7 y1 y7.y (nN (zb1 v v.a y7.m c v.b y7 v.x (qE a::qE b::qE y7.lv::zby y7.y a b [qE y7.lv,qE a,qE y7.lv,qE b])) (zgd zw))))))))))) (U True zw)) (za Bool (fun (x:Bool)=>True) fun y1=>zq y1 (za XEt (fun (x:XEt)=>I (3,x)) fun y2=>zq (decide (y2.s < O 20)) (nN (zb1 v v.a y2.m c v.b y2 v.x (qE a::qE b::qE y2.lv::zby y2.y a b [qE y2.lv,qE a,qE y2.lv,qE b])) (znet26 fun y3=>zq y3 (nN (zg0 v [qE v.a.c]) (zf7 y2.m v v.a (nN [(19,.lt2 0 1 0 1),qE c.W,qE c.L,qE c.C,qE c.T,qE c.D,qE c.H,qE (lS c),qE (lE c),qE (lB c),qE (lQ c),qE (lT c),qE a,qE y2.lv] (U (okYn c.W c.L c.C c.T c.D c.H/\lQ c=lQn c.W c.C c.H) (nN ((12,.lt2 0 1 0 1)::qE ((quN c.W c.L c.C c.D c.H a y2.lv).b)::zf5 v v.a y2.m [qX (y2.m.acc v.n (O 1) (quN c.W c.L c.C c.D c.H a y2.lv).b (y2.m.val v.n (quN c.W c.L c.C c.D c.H a y2.lv).b))]) (za Mm (fun (m':Mm)=>m'=y2.m.acc v.n (O 1) (quN c.W c.L c.C c.D c.H a y2.lv).b (y2.m.val v.n (quN c.W c.L c.C c.D c.H a y2.lv).b)) fun y4=>nN [(9,.lt2 0 1 0 1),(6,.lt 0 1),(48,.lt2 0 1 0 1)] (U (1<=1/\y2.y.cf=y2.y.cf) (U (1+1<=9223372036854775807/\(1+1) * 160<=140737488355328) (za Nat (fun (x:Nat)=>1+1<=x) fun y5=>nN [(8,.lt2 0 1 0 1)] (U (0 < 1/\1 < 1+1) (znet71 (znet71 (znet71 (nN [(13,.lt2 0 1 0 1)] (znet40 (znet40 (znet40 (nN (zcy c (qE a::qE y2.lv::znet37 [])) (U (okYn c.W c.L c.C c.T c.D c.H) (znet40 (U (0 < 1/\1 < 1+1) (nN [(39,.lt2 0 1 0 1)] (U (2<=1+1/\y5=y5) (znet53 fun y6=>nN [(8,.lt2 0 1 0 1)] (znet86 (nN [(6,.lt2 0 1 0 1)] (znet56 (zf2 (zf2 (zf2 (zf2 (nN (qE ((quN c.W c.L c.C c.D c.H a y2.lv).b)::(2,.eqI 0 0)::zcy c []) (zf6 v v.b y2.m y2 v.x (nN [qX (y2.m.acc v.n (O 1) (quN c.W c.L c.C c.D c.H a y2.lv).b (y2.m.val v.n (quN c.W c.L c.C c.D c.H a y2.lv).b))] (za Mm (fun (m':Mm)=>m'=y2.m.acc v.n (O 1) (quN c.W c.L c.C c.D c.H a y2.lv).b (y2.m.val v.n (quN c.W c.L c.C c.D c.H a y2.lv).b)) fun y7=>zf2 (zf2 (zf2 (zf2 (U (2 < 2+1) (zdm v.x v.a v y4 y2 (nN [qE v.n] (zcd v.b y7 y4 (nN [qE y2.now] (zf9 v.x v.b v y7 y4 y2 (nN [qE v.n,qE v.a.c,qE y4.ct] (zfr v v.a y4 y2.m (U (1=1/\J1 4 y2.s (XEt.mk y2.s y4 y2.now y2.lv (Lp.mk (quN c.W c.L c.C c.D c.H a y2.lv).t (quN c.W c.L c.C c.D c.H a y2.lv).b (quN c.W c.L c.C c.D c.H a y2.lv).r (quN c.W c.L c.C c.D c.H a y2.lv).c (y2.m.val v.n (quN c.W c.L c.C c.D c.H a y2.lv).b) (O 0) y6))) (nN (zff v v.a y4 c [qE v.n]) (zcd v.b y7 y4 (nN (zeq y2 v (zeg v.x v.b [qE v.b.c,qL v.n])) (znet34 v y7 y4 y2 (nN [qE a,qE b,qE y2.lv,qE y6,qE y6] (U (3<=2+1) (nN [qE ((quN c.W c.L c.C c.D c.H a y2.lv).t),qE ((quN c.W c.L c.C c.D c.H a y2.lv).b),qE ((quN c.W c.L c.C c.D c.H a y2.lv).r),qE ((quN c.W c.L c.C c.D c.H a y2.lv).c),qE a,qE a,qE b,qE b,qE y2.lv,qE b,qE y2.lv,qE (y2.m.val v.n (quN c.W c.L c.C c.D c.H a y2.lv).b),(1,.eqI 0 0),qE a,qE y2.lv,qE b,qE ((quN c.W c.L c.C c.D c.H a y2.lv).t),qE ((quN c.W c.L c.C c.D c.H a y2.lv).b),qE ((quN c.W c.L c.C c.D c.H a y2.lv).r),qE ((quN c.W c.L c.C c.D c.H a y2.lv).c),qE b,qE (y2.m.val v.n (quN c.W c.L c.C c.D c.H a y2.lv).b)] zw)))))))))))))))))))))))))))))))))))))))))))))))))))))) (U (∀ (x_2:Nat×XEt),x_2.fst=1/\J1 4 y2.s x_2.snd->x_2.fst=1) (za XEt (fun (x_2:XEt)=>1=1/\J1 4 y2.s x_2) fun y4=>nN (za8 v v.a y4.m c v.b y4 v.x a b y4.y [qE b]) (zga y4.y fun y5=>zq y5 (zq (decide (y2.s < (↑ln:Int))) (zfv y2 ln (zq ((g (0+y2.s.toNat)).tmod (O 3) == O 1) (zg4 y2 ln g (nN (znet6 []) (zg1 v v.a y4.m c v.b y4 v.x (zgy v y4.m fun y6=>U (J2 4 y2.s (XEt.mk y2.s y6 y4.now y4.lv y4.y)) (nN (za8 v v.a y6 c v.b y4 v.x a b y4.y [qE b,qE y4.y.x]) zw))))) (U (J2 4 y2.s { y4 with s:=y2.s }) (nN (za8 v v.a y4.m c v.b y4 v.x a b y4.y [qE b,qE y4.y.x]) zw)))) (U (J2 4 y2.s { y4 with s:=y2.s }) (nN (za8 v v.a y4.m c v.b y4 v.x a b y4.y [qE b,qE y4.y.x]) zw))) (za XEt (J2 4 y2.s) fun y6=>nN (za8 v v.a y6.m c v.b y6 v.x a b y6.y [qE b]) (zga y6.y fun y7=>zq y7 (zq (decide (y2.s < (↑ln:Int))) (zg5 y2 ln (zq ((g (0+y2.s.toNat)).tmod (O 13) == O 5) (nN [(3,.lt2 0 1 0 1)] (U (J2 4 y2.s (XEt.mk y2.s y6.m (i64.wrap (y6.now+O 1)) y6.lv y6.y)) (nN (zdx v v.a y6.m c v.b (zcq y6 v (qE v.x.n::zc6 v.b v y6.m (zcq y6 v (znet64 a b y6 y6.y (qE a::qE y6.lv::qE b::zfd y6.y [qE b,qE y6.y.x])))))) zw))) (U (J2 4 y2.s { y6 with s:=y2.s }) (nN (za8 v v.a y6.m c v.b y6 v.x a b y6.y [qE b,qE y6.y.x]) zw)))) (U (J2 4 y2.s { y6 with s:=y2.s }) (nN (za8 v v.a y6.m c v.b y6 v.x a b y6.y [qE b,qE y6.y.x]) zw))) (za XEt (J2 4 y2.s) fun y8=>zq (y2.s == O 2) (U (I (4,{ y8 with s:=i64.wrap (y2.s+O 1) })) (znet5 y2 (nN (za8 v v.a y8.m c v.b y8 v.x a b y8.y [qE b,qE y8.y.x]) zw))) (U (I (4,{ y8 with s:=i64.wrap (y2.s+O 1) })) (znet5 y2 (nN (za8 v v.a y8.m c v.b y8 v.x a b y8.y [qE b,qE y8.y.x]) zw))))))))))) (U True zw)) zw)))):=by kernel_rfl
abbrev znet44 (a0:Mm) (a1:Ev) (a2:Lp) (k:Mm->V):V:=nN [qX (a0.acc a1.n (O 1) a2.t (a0.val a1.n a2.t))] (za Mm (fun (m':Mm)=>m'=a0.acc a1.n (O 1) a2.t (a0.val a1.n a2.t)) fun v0=>k v0)
abbrev znet50 (l:LP):LP:=(6,.lt2 0 1 0 1)::(1,.lt2 0 1 2 3)::l
abbrev znet63 (a0:Lp) (k:V):V:=nN [(6,.lt2 0 1 0 1)] (U (O 0<=O 0/\O 0<=O 2/\O 2<=(↑a0.cf:Int)) k)
abbrev znet87 (a0:Mm) (a1:Ev) (a2:Lp) (a3:Int) (k:Mm->V):V:=nN [qX (a0.acc a1.n (O 2) (zf0 a2.r a2.c a2.x) (u64.wrap a3))] (za Mm (fun (m':Mm)=>m'=a0.acc a1.n (O 2) (zf0 a2.r a2.c a2.x) (u64.wrap a3)) fun v0=>k v0)
theorem vEt2_eq (c:Cf) (v:Ev) (a b d:Int) (cf ln lc:Nat) (g:Nat->Int) (I:Nat×XEt->Prop) (J1 J2:Nat->Int->XEt->Prop):V.pr (.b (.b (.b (.b (.t (.f (.t .z))) (.f (.f .z))) .z) .z) (.b (.b (.b (.f .z) .z) .z) .z)) (vEtO 2 c v a b d cf ln lc g I J1 J2)=
 znet27 I v.m v cf (nN ((1,.eqI 0 0)::zdx v v.a v.m c v.b (qE v.now::qE v.dr::qE v.x.n::zc6 v.b v v.m [qE v.now,qE v.dr,qE a,qE b,qE cf,qE cf,(1,.le 1 1),qE a,qE b])) (znet36 (znet35 I fun y0=>zq y0 (za XEt (fun (x:XEt)=>I (4,x)) fun y1=>zq (decide (y1.s < O 20)) (nN (za8 v v.a y1.m c v.b y1 v.x a b y1.y [qE b]) (zga y1.y fun y2=>zq y2 (nN (zg0 v [qE v.a.c]) (zf7 y1.m v v.a (nN ((7,.lt2 0 1 0 1)::qE y1.y.t::zf5 v v.a y1.m []) (znet44 y1.m v y1.y fun y3=>nN [(7,.lt2 0 1 0 1)] (zq (decide (i64.wrap (u64.wrap (y1.y.x - y1.m.val v.n y1.y.t)) >= y1.y.c)) (nN ((23,.lt2 0 1 0 1)::(1,.lt2 0 1 2 3)::(3,.lt 2 3)::znet50 ((10,.lt 2 3)::qE y1.y.t::(2,.eqI 0 0)::zcy c [])) (zf6 v v.b y1.m y1 v.x (znet44 y1.m v y1.y fun y4=>nN [(3,.lt 2 3),(10,.lt2 0 1 2 3)] (U (decide (i64.wrap (u64.wrap (y1.y.x - y1.m.val v.n y1.y.t)) >= y1.y.c)=true) (znet63 y1.y (nN [(8,.lt2 0 1 0 1),(1,.lt2 0 1 1 3),(4,.lt2 0 1 0 1),(6,.lt 1 3),(6,.lt2 0 1 0 1)] (U (O 0<=O 0/\O 0<=O 1/\O 1<=(↑y1.y.cf:Int)) (nN [(8,.lt2 0 1 0 1),(1,.lt2 0 1 0 3),(4,.lt2 0 1 0 1),(6,.lt 0 3)] (znet45 y1.y (zdm v.x v.a v y3 y1 (nN [qE v.n] (zcd v.b y4 y3 (nN [qE y1.now] (zf9 v.x v.b v y4 y3 y1 (nN [qE v.n,qE v.a.c,qE y3.ct] (zfr v v.a y3 y1.m (nN [(6,.lt2 0 1 0 1)] (U ((y1.lv == y1.lv)=true) (zdm v.x v.a v y3 y1 (nN [qE v.n] (zcd v.b y4 y3 (nN [qE y1.now] (znet66 v.x v.b v y4 y3 (znet4 v.x v y3 y1 (U True zw))))))))))))))))))))))))) (nN (znet50 ((3,.lt 2 3)::znet50 ((10,.lt 2 3)::qE y1.y.t::(2,.eqI 0 0)::zcy c []))) (zf6 v v.b y1.m y1 v.x (znet44 y1.m v y1.y fun y4=>nN [(3,.lt 2 3),(10,.lt2 0 1 2 3)] (U (decide (i64.wrap (u64.wrap (y1.y.x - y1.m.val v.n y1.y.t)) >= y1.y.c)=false) (nN [(6,.lt 2 3)] (zdm v.x v.a v y3 y1 (nN [qE v.n] (zcd v.b y4 y3 (nN [qE y1.now] (zf9 v.x v.b v y4 y3 y1 (nN [qE v.n,qE v.a.c,qE y3.ct] (zfr v v.a y3 y1.m (U (1=1/\J1 5 y1.s (XEt.mk y1.s y3 y1.now y1.lv { y1.y with z:=y1.m.val v.n y1.y.t })) (nN (zff v v.a y3 c [qE v.n]) (zcd v.b y4 y3 (nN (zeq y1 v (zeg v.x v.b [qE v.b.c,qL v.n])) (znet34 v y4 y3 y1 (nN (znet41 a b y1 y1.y (qE a::qE a::qE b::qE b::qE y1.lv::qE b::qE y1.lv::qE y1.y.x::qE (y1.m.val v.n y1.y.t)::qE a::qE y1.lv::qE b::zfd y1.y [qE b,qE y1.y.x])) zw))))))))))))))))))))))) (U (∀ (x_2:Nat×XEt),x_2.fst=1/\J1 5 y1.s x_2.snd->x_2.fst=1) (za XEt (fun (x_2:XEt)=>1=1/\J1 5 y1.s x_2) fun y3=>nN (za8 v v.a y3.m c v.b y3 v.x a b y3.y [qE b]) (zga y3.y fun y4=>zq y4 (zq (decide (y1.s < (↑ln:Int))) (zfv y1 ln (zq ((g (0+y1.s.toNat)).tmod (O 3) == O 1) (zg4 y1 ln g (nN (znet6 []) (zg1 v v.a y3.m c v.b y3 v.x (zgy v y3.m fun y5=>U (J2 5 y1.s (XEt.mk y1.s y5 y3.now y3.lv y3.y)) (nN (za8 v v.a y5 c v.b y3 v.x a b y3.y [qE b,qE y3.y.x]) zw))))) (U (J2 5 y1.s { y3 with s:=y1.s }) (nN (za8 v v.a y3.m c v.b y3 v.x a b y3.y [qE b,qE y3.y.x]) zw)))) (U (J2 5 y1.s { y3 with s:=y1.s }) (nN (za8 v v.a y3.m c v.b y3 v.x a b y3.y [qE b,qE y3.y.x]) zw))) (za XEt (J2 5 y1.s) fun y5=>nN (za8 v v.a y5.m c v.b y5 v.x a b y5.y [qE b]) (zga y5.y fun y6=>zq y6 (zq (decide (y1.s < (↑ln:Int))) (zg5 y1 ln (zq ((g (0+y1.s.toNat)).tmod (O 13) == O 5) (nN [(3,.lt2 0 1 0 1)] (U (J2 5 y1.s (XEt.mk y1.s y5.m (i64.wrap (y5.now+O 1)) y5.lv y5.y)) (nN (zdx v v.a y5.m c v.b (zcq y5 v (qE v.x.n::zc6 v.b v y5.m (zcq y5 v (znet64 a b y5 y5.y (qE a::qE y5.lv::qE b::zfd y5.y [qE b,qE y5.y.x])))))) zw))) (U (J2 5 y1.s { y5 with s:=y1.s }) (nN (za8 v v.a y5.m c v.b y5 v.x a b y5.y [qE b,qE y5.y.x]) zw)))) (U (J2 5 y1.s { y5 with s:=y1.s }) (nN (za8 v v.a y5.m c v.b y5 v.x a b y5.y [qE b,qE y5.y.x]) zw))) (za XEt (J2 5 y1.s) fun y7=>zq (y1.s == O 2) (U (I (5,{ y7 with s:=i64.wrap (y1.s+O 1) })) (znet5 y1 (nN (za8 v v.a y7.m c v.b y7 v.x a b y7.y [qE b,qE y7.y.x]) zw))) (U (I (5,{ y7 with s:=i64.wrap (y1.s+O 1) })) (znet5 y1 (nN (za8 v v.a y7.m c v.b y7 v.x a b y7.y [qE b,qE y7.y.x]) zw))))))))))) (U True zw)) (za Bool (fun (x:Bool)=>True) fun y1=>zq y1 (za XEt (fun (x:XEt)=>I (5,x)) fun y2=>zq (decide (y2.s < O 20)) (nN (za8 v v.a y2.m c v.b y2 v.x a b y2.y [qE b]) (zga y2.y fun y3=>zq y3 (nN (zg0 v [qE v.a.c]) (zf7 y2.m v v.a (nN ((12,.lt2 0 1 0 1)::zfd y2.y [qE y2.y.x]) (U (y2.y.c<=O 9223372036854775807) (nN ((3,.lt2 0 1 0 1)::qE (zf0 y2.y.r y2.y.c y2.y.x)::qE (u64.wrap b)::zf5 v v.a y2.m []) (znet87 y2.m v y2.y b fun y4=>nN (znet50 ((3,.lt 2 3)::znet50 ((6,.lt 2 3)::(9,.lt2 0 1 2 3)::zfd y2.y [qE y2.y.x]))) (U (y2.y.c<=O 9223372036854775807) (nN ((3,.lt2 0 1 2 3)::qE (zf0 y2.y.r y2.y.c y2.y.x)::qE (u64.wrap b)::(1,.eqI 0 0)::zcy c []) (zf6 v v.b y2.m y2 v.x (znet87 y2.m v y2.y b fun y5=>nN [(6,.lt 2 3)] (zdm v.x v.a v y4 y2 (nN [qE v.n] (zcd v.b y5 y4 (nN [qE y2.now] (zf9 v.x v.b v y5 y4 y2 (nN [qE v.n,qE v.a.c,qE y4.ct] (zfr v v.a y4 y2.m (U (1=1/\J1 6 y2.s { y2 with m:=y4 }) (nN (zff v v.a y4 c [qE v.n]) (zcd v.b y5 y4 (nN (zeq y2 v (zeg v.x v.b [qE v.b.c,qL v.n])) (znet34 v y5 y4 y2 (nN (znet64 a b y2 y2.y (qE a::qE y2.lv::qE b::zfd y2.y [qE b,qE y2.y.x])) zw))))))))))))))))))))))) (U (∀ (x_2:Nat×XEt),x_2.fst=1/\J1 6 y2.s x_2.snd->x_2.fst=1) (za XEt (fun (x_2:XEt)=>1=1/\J1 6 y2.s x_2) fun y4=>nN (za8 v v.a y4.m c v.b y4 v.x a b y4.y [qE b]) (zga y4.y fun y5=>zq y5 (zq (decide (y2.s < (↑ln:Int))) (zfv y2 ln (zq ((g (0+y2.s.toNat)).tmod (O 3) == O 1) (zg4 y2 ln g (nN (znet6 []) (zg1 v v.a y4.m c v.b y4 v.x (zgy v y4.m fun y6=>U (J2 6 y2.s (XEt.mk y2.s y6 y4.now y4.lv y4.y)) (nN (za8 v v.a y6 c v.b y4 v.x a b y4.y [qE b,qE y4.y.x]) zw))))) (U (J2 6 y2.s { y4 with s:=y2.s }) (nN (za8 v v.a y4.m c v.b y4 v.x a b y4.y [qE b,qE y4.y.x]) zw)))) (U (J2 6 y2.s { y4 with s:=y2.s }) (nN (za8 v v.a y4.m c v.b y4 v.x a b y4.y [qE b,qE y4.y.x]) zw))) (za XEt (J2 6 y2.s) fun y6=>nN (za8 v v.a y6.m c v.b y6 v.x a b y6.y [qE b]) (zga y6.y fun y7=>zq y7 (zq (decide (y2.s < (↑ln:Int))) (zg5 y2 ln (zq ((g (0+y2.s.toNat)).tmod (O 13) == O 5) (nN [(3,.lt2 0 1 0 1)] (U (J2 6 y2.s (XEt.mk y2.s y6.m (i64.wrap (y6.now+O 1)) y6.lv y6.y)) (nN (zdx v v.a y6.m c v.b (zcq y6 v (qE v.x.n::zc6 v.b v y6.m (zcq y6 v (znet64 a b y6 y6.y (qE a::qE y6.lv::qE b::zfd y6.y [qE b,qE y6.y.x])))))) zw))) (U (J2 6 y2.s { y6 with s:=y2.s }) (nN (za8 v v.a y6.m c v.b y6 v.x a b y6.y [qE b,qE y6.y.x]) zw)))) (U (J2 6 y2.s { y6 with s:=y2.s }) (nN (za8 v v.a y6.m c v.b y6 v.x a b y6.y [qE b,qE y6.y.x]) zw))) (za XEt (J2 6 y2.s) fun y8=>zq (y2.s == O 2) (U (I (6,{ y8 with s:=i64.wrap (y2.s+O 1) })) (znet5 y2 (nN (za8 v v.a y8.m c v.b y8 v.x a b y8.y [qE b,qE y8.y.x]) zw))) (U (I (6,{ y8 with s:=i64.wrap (y2.s+O 1) })) (znet5 y2 (nN (za8 v v.a y8.m c v.b y8 v.x a b y8.y [qE b,qE y8.y.x]) zw))))))))))) (U True zw)) zw)))):=by kernel_rfl
abbrev znet43 (a0:Nat×XEt->Prop) (a1 a2:XEt) (k:V):V:=U (a0 (7,{ a1 with s:=i64.wrap (a2.s+O 1) })) (znet5 a2 k)
abbrev znet31 (a0:Cf) (a1:Int) (a2:XEt) (l:LP):LP:=qE (bmN a0.W a0.C a0.H a1)::qE a2.lv::l
abbrev zdu (a0:Ev) (a1:Rm) (a2:Mm) (a3:Cf) (a4:Rm) (a5:XEt) (a6:Rk) (a7 a8:Int) (a9:Lp) (l:LP):LP:=znet46 a0 a1 a2 a3 a4 a5 a6 a7 a8 a9 (znet31 a3 a7 a5 l)
abbrev znet52 (k:V):V:=U (0 < 1/\2 < 2+1) (U (0 < 1/\2 < 2+1) k)
abbrev zg9 (a0:Nat->Int->XEt->Prop) (a1 a2:XEt) (a3:Ev) (a4:Rm) (a5:Mm) (a6:Cf) (a7:Rm) (a8:Rk) (a9 a10:Int) (a11:Lp) (k:V):V:=U (a0 7 a1.s { a2 with s:=a1.s }) (nN (zdu a3 a4 a5 a6 a7 a2 a8 a9 a10 a11 []) k)
abbrev znet68 (a0:Mm) (a1:Ev) (a2:Lp) (k:Mm->V):V:=nN [qX (a0.acc a1.n (O 2) a2.b (u64.wrap (a2.x+O 1)))] (za Mm (fun (m':Mm)=>m'=a0.acc a1.n (O 2) a2.b (u64.wrap (a2.x+O 1))) fun v0=>k v0)
abbrev znet72 (a0:Nat->Int->XEt->Prop) (a1:XEt) (k:XEt->V):V:=U (∀ (x_2:Nat×XEt),x_2.fst=1/\a0 7 a1.s x_2.snd->x_2.fst=1) (za XEt (fun (x_2:XEt)=>1=1/\a0 7 a1.s x_2) fun v0=>k v0)
abbrev znet73 (k:V):V:=U (1 < 2+1) (U (1 < 2+1) k)
abbrev znet74 (k:V):V:=U (0 < 2+1) (U (0 < 2+1) k)
theorem vEt3_eq (c:Cf) (v:Ev) (a b d:Int) (cf ln lc:Nat) (g:Nat->Int) (I:Nat×XEt->Prop) (J1 J2:Nat->Int->XEt->Prop):V.pr (.b (.b (.b (.f .z) .z) .z) (.b (.b (.b (.f (.t .z)) .z) .z) .z)) (vEtO 3 c v a b d cf ln lc g I J1 J2)=
 znet27 I v.m v cf (nN ((1,.eqI 0 0)::zdx v v.a v.m c v.b (qE v.now::qE v.dr::qE v.x.n::zc6 v.b v v.m [qE v.now,qE v.dr,qE a,qE b,qE cf,qE cf,(1,.le 1 1),qE a,qE b])) (znet36 (znet35 I fun y0=>zq y0 (za XEt (fun (x:XEt)=>I (6,x)) fun y1=>zq (decide (y1.s < O 20)) (nN (za8 v v.a y1.m c v.b y1 v.x a b y1.y [qE b]) (zga y1.y fun y2=>zq y2 (nN (zg0 v [qE v.a.c]) (zf7 y1.m v v.a (nN ((10,.lt2 0 1 0 1)::qE y1.y.b::qE (u64.wrap (y1.y.x+O 1))::zf5 v v.a y1.m []) (znet68 y1.m v y1.y fun y3=>nN [(22,.lt2 0 1 0 1),qE c.W,qE c.L,qE c.C,qE c.T,qE c.D,qE c.H,qE (lS c),qE (lE c),qE (lB c),qE (lQ c),qE (lT c),qE a] (U (okYn c.W c.L c.C c.T c.D c.H/\lB c=O 4+c.H+c.C+c.W) (nN ((13,.lt2 0 1 0 1)::(1,.lt2 0 1 2 3)::(3,.lt 2 3)::znet50 ((6,.lt 2 3)::(7,.lt2 0 1 2 3)::qE y1.y.b::qE (u64.wrap (y1.y.x+O 1))::(1,.eqI 0 0)::zcy c [])) (zf6 v v.b y1.m y1 v.x (znet68 y1.m v y1.y fun y4=>znet63 y1.y (nN [(8,.lt2 0 1 0 1),(1,.lt2 0 1 1 3),(4,.lt2 0 1 0 1),(9,.lt 1 3)] (zdm v.x v.a v y3 y1 (nN [qE v.n] (zcd v.b y4 y3 (nN [qE y1.now] (zf9 v.x v.b v y4 y3 y1 (nN [qE v.n,qE v.a.c,qE y3.ct] (zfr v v.a y3 y1.m (U (1=1/\J1 7 y1.s { y1 with m:=y3 }) (nN (zff v v.a y3 c [qE v.n]) (zcd v.b y4 y3 (nN (zeq y1 v (zeg v.x v.b [qE v.b.c,qL v.n])) (znet34 v y4 y3 y1 (nN (znet64 a b y1 y1.y (qE a::qE y1.lv::qE b::znet31 c a y1 [])) zw)))))))))))))))))))))) (znet72 J1 y1 fun y3=>nN (zdu v v.a y3.m c v.b y3 v.x a b y3.y []) (za Bool (fun (x:Bool)=>True) fun y4=>zq y4 (zq (decide (y1.s < (↑ln:Int))) (zfv y1 ln (zq ((g (0+y1.s.toNat)).tmod (O 3) == O 1) (zg4 y1 ln g (nN (znet6 []) (zg1 v v.a y3.m c v.b y3 v.x (zgy v y3.m fun y5=>U (J2 7 y1.s { y3 with s:=y1.s,m:=y5 }) (nN (zdu v v.a y5 c v.b y3 v.x a b y3.y []) zw))))) (zg9 J2 y1 y3 v v.a y3.m c v.b v.x a b y3.y zw))) (zg9 J2 y1 y3 v v.a y3.m c v.b v.x a b y3.y zw)) (za XEt (J2 7 y1.s) fun y5=>nN (zdu v v.a y5.m c v.b y5 v.x a b y5.y []) (za Bool (fun (x:Bool)=>True) fun y6=>zq y6 (zq (decide (y1.s < (↑ln:Int))) (zg5 y1 ln (zq ((g (0+y1.s.toNat)).tmod (O 13) == O 5) (nN [(3,.lt2 0 1 0 1)] (U (J2 7 y1.s (XEt.mk y1.s y5.m (i64.wrap (y5.now+O 1)) y5.lv y5.y)) (nN (zdx v v.a y5.m c v.b (zcq y5 v (qE v.x.n::zc6 v.b v y5.m (zcq y5 v (znet64 a b y5 y5.y (qE a::qE y5.lv::qE b::znet31 c a y5 [])))))) zw))) (zg9 J2 y1 y5 v v.a y5.m c v.b v.x a b y5.y zw))) (zg9 J2 y1 y5 v v.a y5.m c v.b v.x a b y5.y zw)) (za XEt (J2 7 y1.s) fun y7=>zq (y1.s == O 2) (znet43 I y7 y1 (nN (zdu v v.a y7.m c v.b y7 v.x a b y7.y []) zw)) (znet43 I y7 y1 (nN (zdu v v.a y7.m c v.b y7 v.x a b y7.y []) zw))))))))) (U True zw)) (za Bool (fun (x:Bool)=>True) fun y1=>zq y1 (za XEt (fun (x:XEt)=>I (7,x)) fun y2=>zq (decide (y2.s < O 20)) (nN (zdu v v.a y2.m c v.b y2 v.x a b y2.y []) (za Bool (fun (x:Bool)=>True) fun y3=>zq y3 (nN (zg0 v [qE v.a.c]) (zf7 y2.m v v.a (nN [(9,.lt2 0 1 0 1),qE y2.lv] (U True (nN (qE (bmN c.W c.C c.H a)::qE (bitM y2.lv)::zf5 v v.a y2.m [qX (y2.m.acc v.n (O 4) (bmN c.W c.C c.H a) (bits BinOp.or IntKind.u64 (y2.m.val v.n (bmN c.W c.C c.H a)) (bitM y2.lv)))]) (za Mm (fun (m':Mm)=>m'=y2.m.acc v.n (O 4) (bmN c.W c.C c.H a) (bits BinOp.or IntKind.u64 (y2.m.val v.n (bmN c.W c.C c.H a)) (bitM y2.lv))) fun y4=>nN ((23,.lt2 0 1 0 1)::(1,.lt2 0 1 1 3)::(6,.lt 1 3)::(13,.lt2 0 1 0 1)::(3,.lt2 0 1 1 3)::zcy c (qE a::znet37 [])) (U (okYn c.W c.L c.C c.T c.D c.H) (nN [(3,.lt2 0 1 1 3),(39,.lt2 0 1 0 1)] (U (2<=3/\y2.y.cf=y2.y.cf) (znet53 fun y5=>nN [(8,.lt2 0 1 0 1)] (znet86 (nN [(6,.lt2 0 1 0 1)] (znet86 (znet52 (znet52 (znet52 (nN [qE y2.lv] (U True (nN (qE (bmN c.W c.C c.H a)::qE (bitM y2.lv)::(1,.eqI 0 0)::zcy c []) (zf6 v v.b y2.m y2 v.x (nN [qX (y2.m.acc v.n (O 4) (bmN c.W c.C c.H a) (bits BinOp.or IntKind.u64 (y2.m.val v.n (bmN c.W c.C c.H a)) (bitM y2.lv)))] (za Mm (fun (m':Mm)=>m'=y2.m.acc v.n (O 4) (bmN c.W c.C c.H a) (bits BinOp.or IntKind.u64 (y2.m.val v.n (bmN c.W c.C c.H a)) (bitM y2.lv))) fun y6=>nN [(6,.lt2 0 1 0 1)] (U (O 0<=O 0/\O 0<=O 2/\O 2<=(↑y5:Int)) (nN [(8,.lt2 0 1 0 1)] (U (0 < 1/\1 < 2+1) (nN [(4,.lt2 0 1 0 1)] (znet73 (znet73 (znet73 (nN [(6,.lt2 0 1 0 1)] (U (O 0<=O 0/\O 0<=O 1/\O 1<=(↑y5:Int)) (nN [(8,.lt2 0 1 0 1)] (U (0 < 1/\0 < 2+1) (nN [(4,.lt2 0 1 0 1)] (znet74 (znet74 (znet74 (nN [(6,.lt2 0 1 0 1)] (U (O 0<=O 0/\O 0<=O 0/\O 0<=(↑y5:Int)) (nN [(12,.lt2 0 1 0 1)] (zdm v.x v.a v y4 y2 (nN [qE v.n] (zcd v.b y6 y4 (nN [qE y2.now] (zf9 v.x v.b v y6 y4 y2 (nN [qE v.n,qE v.a.c,qE y4.ct] (zfr v v.a y4 y2.m (nN [(6,.lt2 0 1 0 1)] (U ((y2.lv == y2.lv)=true) (zdm v.x v.a v y4 y2 (nN [qE v.n] (zcd v.b y6 y4 (nN [qE y2.now] (znet66 v.x v.b v y6 y4 (znet4 v.x v y4 y2 (U True zw)))))))))))))))))))))))))))))))))))))))))))))))))))))))) (znet72 J1 y2 fun y4=>nN (zdu v v.a y4.m c v.b y4 v.x a b y4.y []) (za Bool (fun (x:Bool)=>True) fun y5=>zq y5 (zq (decide (y2.s < (↑ln:Int))) (zfv y2 ln (zq ((g (0+y2.s.toNat)).tmod (O 3) == O 1) (zg4 y2 ln g (nN (znet6 []) (zg1 v v.a y4.m c v.b y4 v.x (zgy v y4.m fun y6=>U (J2 7 y2.s { y4 with s:=y2.s,m:=y6 }) (nN (zdu v v.a y6 c v.b y4 v.x a b y4.y []) zw))))) (zg9 J2 y2 y4 v v.a y4.m c v.b v.x a b y4.y zw))) (zg9 J2 y2 y4 v v.a y4.m c v.b v.x a b y4.y zw)) (za XEt (J2 7 y2.s) fun y6=>nN (zdu v v.a y6.m c v.b y6 v.x a b y6.y []) (za Bool (fun (x:Bool)=>True) fun y7=>zq y7 (zq (decide (y2.s < (↑ln:Int))) (zg5 y2 ln (zq ((g (0+y2.s.toNat)).tmod (O 13) == O 5) (nN [(3,.lt2 0 1 0 1)] (U (J2 7 y2.s (XEt.mk y2.s y6.m (i64.wrap (y6.now+O 1)) y6.lv y6.y)) (nN (zdx v v.a y6.m c v.b (zcq y6 v (qE v.x.n::zc6 v.b v y6.m (zcq y6 v (znet64 a b y6 y6.y (qE a::qE y6.lv::qE b::znet31 c a y6 [])))))) zw))) (zg9 J2 y2 y6 v v.a y6.m c v.b v.x a b y6.y zw))) (zg9 J2 y2 y6 v v.a y6.m c v.b v.x a b y6.y zw)) (za XEt (J2 7 y2.s) fun y8=>zq (y2.s == O 2) (znet43 I y8 y2 (nN (zdu v v.a y8.m c v.b y8 v.x a b y8.y []) zw)) (znet43 I y8 y2 (nN (zdu v v.a y8.m c v.b y8 v.x a b y8.y []) zw))))))))) (U True zw)) zw)))):=by kernel_rfl
end Go.Proofs.YthbgfdcgakfbiaaGreat.En
/- Enter of the table, step by step: the conditions hold; the contract of Match. -/
namespace Go.Proofs.YthbgfdcgakfbiaaGreat.En
open Go Go.RowKit Sx Cn Dc Ck Vc Md
def iEt (tk:Prop) (x:Nat×XEt):Prop:=rI x.2.s x.2.m/\x.1 < 8/\x.2.y.c<=64/\(x.1 < 4\/3<=x.2.y.cf)/\(x.1 < 1\/tk)
def jEt (tk:Prop) (b:Int) (p:Nat) (q:Int) (x:XEt):Prop:=rM b q x.m/\x.y.c<=64/\(p < 4\/3<=x.y.cf)/\tk
section
variable {tk:Prop} {c:Cf} {v:Ev} {q s now k a y:Int} {j n cf:Nat} {m:Mm} {x:XEt} {z:Lp}
theorem Et_r (hi:iEt tk (j,x)) (h:decide (x.s < (n:Int))=true):O 0<=x.s/\x.s < n:=q_r hi.1 h
theorem Et_r2 (hi:iEt tk (j,x)) (h:decide (x.s < (n:Int))=true):0 < 1/\0+x.s.toNat < n:=q_r2 hi.1 h
theorem Et_mu (hi:iEt tk (j,x)) (hs:decide (x.s < O 20)=true):(O 200 - i64.wrap (x.s+O 1)).toNat < (O 200 - x.s).toNat:=q_mu hi.1 hs (by decide)
theorem Et_ct (hi:iEt tk (j,x)) (hs:decide (x.s < O 20)=true) (h:m=x.m.acc n k a y):decide (m.ct > i64.wrap (x.m.ct+O 1))=false:=q_ctf hi.1 hs (by decide) h
theorem Et_cg (hi:iEt tk (j,x)) (hs:decide (x.s < O 20)=true):decide (x.m.ct > i64.wrap (x.m.ct+O 1))=false:=q_ctg hi.1 hs (by decide)
theorem Et_v (hi:iEt tk (j,x)):wW (x.m.val n a):=q_v hi.1
theorem Et_c (hi:iEt tk (j,x)):x.y.c<=O 9223372036854775807:=Int.le_trans hi.2.2.1 (by decide)
theorem Et_f (hi:iEt tk (j,x)) (hj:4<=j):3<=x.y.cf:=hi.2.2.2.1.resolve_left (by show ¬ j < 4; omega)
theorem Et_tk (hi:iEt tk (j,x)) (hj:1<=j):tk:=hi.2.2.2.2.resolve_left (by show ¬ j < 1; omega)
theorem Et_j0 {p:Nat} (hi:iEt tk (j,x)) (hs:decide (x.s < O 20)=true) (hp:p < 4) (hm:m=x.m.acc n k a y) (hy:wW y) (ht:tk) {now:Int} {lv:Int} {cf:Nat}:jEt tk 1 p x.s ⟨x.s,m,now,lv,⟨0,0,0,0,0,0,cf⟩⟩:=⟨q_j hi.1 hs (by decide) hm hy,by show (0:Int)<=64; decide,.inl hp,ht⟩
theorem Et_j {p:Nat} (hi:iEt tk (j,x)) (hs:decide (x.s < O 20)=true) (hj:4<=j) (hm:m=x.m.acc n k a y) (hy:wW y) {now:Int} {lv:Int}:jEt tk 1 p x.s ⟨x.s,m,now,lv,x.y⟩:=⟨q_j hi.1 hs (by decide) hm hy,hi.2.2.1,by have:=Et_f hi hj; exact .inr this,Et_tk hi (Nat.le_trans (by decide) hj)⟩
theorem Et_j1 {p:Nat} (h:okMq c v) (hi:iEt tk (j,x)) (hs:decide (x.s < O 20)=true) (hj:1<=j) (hm:m=x.m.acc n k a y) (hy:wW y) (hf:3<=cf) {now w l t b r e f:Int} {lv:Int}:jEt tk 1 p x.s ⟨x.s,m,now,lv,⟨t,b,r,(quN c.W c.L c.C c.D c.H w l).c,e,f,cf⟩⟩:=⟨q_j hi.1 hs (by decide) hm hy,quN_c h,.inr hf,Et_tk hi hj⟩
theorem Et_jz {p:Nat} (hi:iEt tk (j,x)) (hs:decide (x.s < O 20)=true) (hj:4<=j) (hm:m=x.m.acc n k a y) (hy:wW y) {now z:Int} {lv:Int}:jEt tk 1 p x.s ⟨x.s,m,now,lv,⟨x.y.t,x.y.b,x.y.r,x.y.c,x.y.x,z,x.y.cf⟩⟩:=⟨q_j hi.1 hs (by decide) hm hy,hi.2.2.1,by have:=Et_f hi hj; exact .inr this,Et_tk hi (Nat.le_trans (by decide) hj)⟩
theorem Et_2 {p:Nat} (h:jEt tk 1 p q x) {lv:Int}:jEt tk 2 p q ⟨s,x.m,now,lv,x.y⟩:=⟨q_2 h.1,h.2⟩
theorem Et_2z {p:Nat} (h:jEt tk 1 p q x) (hp:p < 4) {lv:Int}:jEt tk 2 p q ⟨s,x.m,now,lv,⟨0,0,0,0,0,0,cf⟩⟩:=⟨q_2 h.1,by show (0:Int)<=64; decide,.inl hp,h.2.2.2⟩
theorem Et_2d {p:Nat} (h:jEt tk 1 p q x) (hm:okMw (x.m.ct+O 1) m) {lv:Int}:jEt tk 2 p q ⟨s,m,now,lv,x.y⟩:=⟨q_2d h.1 hm,h.2⟩
theorem Et_2dz {p:Nat} (h:jEt tk 1 p q x) (hm:okMw (x.m.ct+O 1) m) (hp:p < 4) {lv:Int}:jEt tk 2 p q ⟨s,m,now,lv,⟨0,0,0,0,0,0,cf⟩⟩:=⟨q_2d h.1 hm,by show (0:Int)<=64; decide,.inl hp,h.2.2.2⟩
theorem Et_3 {p:Nat} (h:jEt tk 2 p q x) {lv:Int}:jEt tk 2 p q ⟨s,x.m,now,lv,x.y⟩:=h
theorem Et_3z {p:Nat} (h:jEt tk 2 p q x) (hp:p < 4) {lv:Int}:jEt tk 2 p q ⟨s,x.m,now,lv,⟨0,0,0,0,0,0,cf⟩⟩:=⟨h.1,by show (0:Int)<=64; decide,.inl hp,h.2.2.2⟩
theorem Et_i (h:jEt tk 2 j q x) (hj:j < 8) {lv:Int}:iEt tk (j,⟨i64.wrap (q+O 1),x.m,now,lv,x.y⟩):=⟨q_i h.1,hj,h.2.1,h.2.2.1,.inr h.2.2.2⟩
theorem Et_iz (h:jEt tk 2 j q x) (hj:j < 4) {lv:Int}:iEt tk (j,⟨i64.wrap (q+O 1),x.m,now,lv,⟨0,0,0,0,0,0,cf⟩⟩):=⟨q_i h.1,Nat.lt_of_lt_of_le hj (by decide),by show (0:Int)<=64; decide,.inl hj,.inr h.2.2.2⟩
theorem Et_0 (h:okMq c v) {lv:Int}:iEt tk (0,⟨O 0,v.m,now,lv,⟨0,0,0,0,0,0,cf⟩⟩):=⟨q_m0 h,by show (0:Nat) < 8; decide,by show (0:Int)<=64; decide,.inl (by show (0:Nat) < 4; decide),.inl (by show (0:Nat) < 1; decide)⟩
end
theorem vhEtA {c:Cf} {v:Ev} {w t d:Int} {cf ln lc:Nat} {g:Nat->Int} (h:okMq c v):zad (vEtO 0 c v w t d cf ln lc g (iEt (0<=t/\t < c.T)) (jEt (0<=t/\t < c.T) 1) (jEt (0<=t/\t < c.T) 2))/\zad (vEtO 1 c v w t d cf ln lc g (iEt (0<=t/\t < c.T)) (jEt (0<=t/\t < c.T) 1) (jEt (0<=t/\t < c.T) 2))/\zad (vEtO 2 c v w t d cf ln lc g (iEt (0<=t/\t < c.T)) (jEt (0<=t/\t < c.T) 1) (jEt (0<=t/\t < c.T) 2))/\zad (vEtO 3 c v w t d cf ln lc g (iEt (0<=t/\t < c.T)) (jEt (0<=t/\t < c.T) 1) (jEt (0<=t/\t < c.T) 2)):=by
 refine ⟨zad.pr (vEt0_eq ..) ?_,zad.pr (vEt1_eq ..) ?_,zad.pr (vEt2_eq ..) ?_,zad.pr (vEt3_eq ..) ?_⟩
 all_goals (with_reducible repeat' first | exact V.okI | refine V.brT ?_ | refine V.brF ?_ | refine V.brI ?_ ?_ | refine V.anyI ?_ | refine nN_h rfl ?_ | refine V.needI ?_ ?_ | intro _)
 all_goals first
  | assumption
  | exact True.intro
  | exact Nat.zero_le _
  | exact q_cm ‹_›
  | exact q_ka ‹_›
  | exact q_kb ‹_›
  | exact Et_r ‹_› ‹_›
  | exact Et_r2 ‹_› ‹_›
  | exact Et_mu ‹_› ‹_›
  | exact Et_ct ‹_› ‹_› ‹_›
  | exact Et_cg ‹_› ‹_›
  | exact Et_c ‹_›
  | exact ⟨rfl,Et_j ‹_› ‹_› (by decide) ‹_› (by first | exact Et_v ‹_› | exact zfa _ | exact bits_ok _ | decide)⟩
  | exact ⟨rfl,Et_jz ‹_› ‹_› (by decide) ‹_› (Et_v ‹_›)⟩
  | exact ⟨rfl,Et_j1 ‹_› ‹_› ‹_› (by decide) ‹_› (by first | exact Et_v ‹_› | exact zfa _) ‹_›⟩
  | exact Et_2 (And.right ‹_›)
  | exact Et_2 ‹_›
  | exact Et_2d (And.right ‹_›) ‹_›
  | exact Et_i ‹_› (by decide)
  | exact q_di (q_n ‹_›) (And.left (And.right ‹_›))
  | exact q_ex (And.left (And.right ‹_›))
  | exact q_di (q_n ‹_›) (And.left ‹_›)
  | exact q_ex (And.left ‹_›)
  | exact ⟨by decide,by decide,Int.ofNat_le.2 (Nat.le_trans (by decide) (Et_f ‹_› (by decide)))⟩
  | (refine ⟨by decide,by decide,?_⟩; simp only [Int.ofNat_eq_natCast]; omega)
  | exact ⟨by decide,by decide,Int.natCast_nonneg _⟩
  | exact ⟨by decide,rfl⟩
  | exact And.left ‹_›
  | exact And.left (And.right (by assumption:iEt _ _))
  | exact h.1
  | exact ⟨h.1,rfl⟩
  | exact ⟨h.1,rfl,by decide,by decide⟩
  | exact q_yk ‹_› (by decide)
  | exact Et_0 ‹_›
  | (subst_vars; rfl)
  | exact q_nt (by with_reducible assumption)
  | exact q_nf (by with_reducible assumption)
  | decide
  | exact ⟨rfl,Et_j0 ‹_› ‹_› (by decide) ‹_› (by first | exact Et_v ‹_› | exact zfa _ | exact ⟨by decide,by decide⟩) (by first | exact Et_tk ‹_› (by decide) | exact ⟨of_decide_eq_true ‹_›,of_decide_eq_true (q_nf ‹_›)⟩)⟩
  | exact Et_2z (And.right ‹_›) (by decide)
  | exact Et_2dz (And.right ‹_›) ‹_› (by decide)
  | exact Et_3 ‹_›
  | exact Et_3z ‹_› (by decide)
  | exact Et_iz ‹_› (by decide)
  | exact beq_self_eq_true _
  | (exfalso; exact q_tn3 ‹_› (by with_reducible assumption) (by with_reducible assumption))
  | (exfalso; exact q_tn ‹_› (by with_reducible assumption) (by with_reducible assumption))
  | (exfalso; exact tk_n1 (Et_tk ‹_› (by decide)) (by with_reducible assumption))
  | (exfalso; exact tk_n2 (Et_tk ‹_› (by decide)) (by with_reducible assumption))
  | exact Int.le_refl 0
  | exact ⟨v.m,trivial⟩
  | exact ⟨Nat.zero_le _,Nat.zero_le _⟩
  | trace_state
theorem vhEt {c:Cf} {v:Ev} {w t d:Int} {cf ln lc:Nat} {g:Nat->Int} (h:okMq c v):zad (vEt c v w t d cf ln lc g (iEt (0<=t/\t < c.T)) (jEt (0<=t/\t < c.T) 1) (jEt (0<=t/\t < c.T) 2)):=
 verO_h (k:=4) (m:=2) (by decide) fun j hj=>by
  have a:=vhEtA (w:=w) (t:=t) (d:=d) (cf:=cf) (ln:=ln) (lc:=lc) (g:=g) h
  match j,hj with
  | 0,_=>exact a.1
  | 1,_=>exact a.2.1
  | 2,_=>exact a.2.2.1
  | 3,_=>exact a.2.2.2
noncomputable section
def cEt:List SV->Hp->Out (SV×Hp):=cMq 15 20 etX hEt okMq
theorem cEt_ok:zab P fMt cEt:=cMq_ok fun c v a b d cf ln lc g=>zai cnEt_ok fun h=>vhEt h
end
end Go.Proofs.YthbgfdcgakfbiaaGreat.En
