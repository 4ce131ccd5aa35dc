/- A part of the proof. -/
import Derived.Test.YtjgldffneablmaaGreatMEnMe
import Derived.Test.YtjgldffneablmaaGreatMEnPp
import Derived.Test.YtjgldffneablmaaGreatMEnG
import Derived.Test.YtjgldffneablmaaGreatMEg
import Derived.Test.YtjgldffneablmaaGreatMW
import Derived.Test.YtjgldffneablmaaGreatMV
import Derived.Test.YtjgldffneablmaaGreatMEnLr
import Derived.Test.YtjgldffneablmaaGreatMMd
set_option maxHeartbeats 64000000
set_option linter.unusedVariables false
set_option linter.unusedSimpArgs false
set_option maxRecDepth 100000
open Go.IntKind (i64 u64)
open Int renaming ofNat -> O
open Nat renaming le_refl -> zq
open Go.Proofs.YtjgldffneablmaaGreat.Sx.V renaming need -> U, br -> zj, ok -> zx, any -> z9
namespace Go.Proofs.YtjgldffneablmaaGreat.En
open Go Go.RowKit Sx Cn Dc Ck Vc Md
noncomputable section
structure XTz where
 s:Int
 m:Mm
 now:Int
 n:Int
 lv:Int
 u:Int
 x:Int
 z:Int
 t:Int
 cf:Nat
 l:El
 na:Nat
 nb:Nat
def tTz:TypeId:=100
def tCz:TypeId:=217
def tzB(w:SC)(cl:Bool)(ins:SC):Blk:=.own 104 6 ([.kb false,.ki .i64 0,.ki .i64 0,w,.kb cl,ins].map some)
def czB(w t:SC):Blk:=.own 219 5 ([.kb false,.ki .i64 0,.ki .i64 0,w,t].map some)
def fTz(w ln n:SC):List SC:=frR 23 ln z6 z6 z6 z6 w z6 z6 z6 z6 n z6 zU zU zU zU
def tzL(j:Nat):SC:=match j with
 | 0|2=>k6 1
 | 3|4|5|6=>k6 3
 | _=>k6 2
def tzI(ki j:Nat):SC:=match j with
 | 0|2=>.nilI
 | 3|4|5|6=>.ifc tCl ki (.k 0) (.k 0) 0 11
 | _=>.ifc tOo ki (.k 0) (.k 0) 0 10
def tzQ(c:Cf)(w bm:Int)(x:XTz)(j:Nat):Blk:=match j with
 | 0|2|15=>du0
 | 1=>ooB (quX c w x.lv) (k6 1) zU zU
 | 3|4|5|6=>reB (.kb false) z6 (i6 bm) (i6 x.lv) (quX c w x.lv) (k6 (j-2)) (match j with|3=>zU|_=>uw x.x)
 | _=>ooB (quX c w x.lv) (k6 (j-5)) (uw x.x) (uw x.z)
def tzF(c:Cf)(w bm:Int)(x:XTz)(j:Nat):List (List SC):=match j with
 | 0=>[fTz (i6 w) (k6 1) (i6 x.n)]
 | 15=>[fTz (i6 w) (k6 2) (i6 x.t)]
 | 1=>[fTz (i6 w) (k6 1) (i6 x.n),fPp (i6 w) (i6 x.lv) (k6 2) (uw x.u)]
 | 2=>[fTz (i6 w) (k6 1) (i6 x.n),fPp (i6 w) (i6 x.lv) (k6 1) (uw x.u)]
 | 3=>[fTz (i6 w) (k6 1) (i6 x.n),fPp (i6 w) (i6 x.lv) (k6 3) (uw x.u)]
 | 4|5|6=>[fTz (i6 w) (k6 1) (i6 x.n),fPp (i6 w) (i6 x.lv) (k6 3) (uw x.u),fRe (i6 bm) (i6 x.lv) (quX c w x.lv) (k6 (j-2)) (uw x.x) (uw x.z)]
 | 10|12|14=>[fTz (i6 w) (k6 1) (i6 x.n),fPp (i6 w) (i6 x.lv) (k6 2) (uw x.u),fOo (quX c w x.lv) (i6 (O (j-5))) (uw x.x) (uw x.z)]
 | _=>[fTz (i6 w) (k6 1) (i6 x.n),fPp (i6 w) (i6 x.lv) (k6 2) (uw x.u),fOo (quX c w x.lv) (k6 (j-5)) (uw x.x) (uw x.z)]
def tzM(j:Nat):Nat:=match j with
 | 0|15=>1
 | 1|2|3=>2
 | _=>3
def tzN(c:Cf)(w bm:Int)(ka kb:Nat)(ma:List (List SC)->Nat->Nat->List Blk)(x:XTz)(j:Nat):List Blk:=match j with
 | 15=>tzB (i6 w) true (.ifc tCz ka (.k 0) (.k 0) 0 5)::(ma (tzF c w bm x 15) 1 x.cf++[czB (i6 w) (i6 x.t),du0])
 | j=>tzB (i6 w) false (.ifc tPo ka (.k 0) (.k 0) 0 7)::(ma (tzF c w bm x j) (tzM j) x.cf++[poB (i6 w) (match j with|0=>z6|_=>i6 x.lv) (tzL j) (tzI kb j),tzQ c w bm x j])
def inTz(s:St):Nat:=scK (zaw (tmK 2 s) 5 s.H.h)
def inTy(s:St):Nat:=match zaw (inTz s) 6 s.H.h with
 | some (.ifc _ k _ _ _ _)=>k
 | _=>findT 0 [] s.H.h
def shTz(s:St):Nat:=fN (inTz s) fun kp=>match zaw (tmK 2 s) 5 s.H.h with
 | some (.ifc t _ _ _ _ _)=>(match Nat.beq t tCz with
  | true=>15
  | false=>(match zaw kp 6 s.H.h with
   | some (.ifc t ki _ _ _ _)=>(match Nat.beq t tOo with
    | true=>fN (litN (zaw ki 7 s.H.h)) fun n=>(match n with
     | 1=>1
     | n=>n+5)
    | false=>fN (litN (zaw ki 9 s.H.h)) fun n=>n+2)
   | _=>(match Nat.beq (frN 3 s) 1 with
    | true=>0
    | false=>2)))
 | _=>99
def tzX(n:Nat):List Nat:=match n with
 | 0|2=>[1]
 | 1=>[7]
 | 3=>[4]
 | 4=>[5]
 | 5=>[6,2]
 | 6=>[2]
 | 7=>[8,3]
 | 8=>[9]
 | 9=>[10,11,14]
 | 11=>[12,14]
 | 12=>[13]
 | 10|13=>[15]
 | 14=>[3]
 | 15=>[0]
 | _=>[]
def tzP(n i:Nat):Nat:=match i with
 | 0=>n
 | i+1=>((tzX n)[i]?).getD n
def okTz(n i:Nat):Prop:=1<=i/\i<1+(tzX n).length
def rdTz(q:Int)(m:Mm)(w:Int)(e:El)(na nb:Nat)(s:St):Option XTz:=fN (inTz s) fun kp=>fN (shTz s) fun j=>match ceS (tmK 3 s) 0 s.H.h,(find (frKi 3 s) s.H.h).map zfj with
 | some (_,_,cf),some (_::_::_::_::_::_::_::_::_::_::_::n::_::u::t::_)=>(match headC n with
  | some n0=>(match j with
   | 0=>some ⟨q,m,w,n0,0,0,0,0,0,cf,e,na,nb⟩
   | 15=>some ⟨q,m,w,0,0,0,0,0,n0,cf,e,na,nb⟩
   | _=>(match ceI kp 4 s.H.h,nthC 1 u with
    | some lv,some u1=>(match j with
     | 1=>some ⟨q,m,w,n0,lv,u1,0,0,0,cf,e,na,nb⟩
     | 2=>some ⟨q,m,w,n0,lv,u1,0,0,0,cf,e,na,nb⟩
     | 3=>some ⟨q,m,w,n0,lv,u1,0,0,0,cf,e,na,nb⟩
     | _=>(match nthC 2 u,nthC 2 t with
      | some x,some z=>some ⟨q,m,w,n0,lv,u1,x,z,0,cf,e,na,nb⟩
      | _,_=>none))
    | _,_=>none))
  | none=>none)
 | _,_=>none
def recE(t:Nat)(s:St):Nat:=scK (zaw (tmK t s) 24 s.H.h)
def recR(t:Nat)(s:St):Nat:=scK (zaw (tmK t s) 19 s.H.h)
def laTz(c:Cf)(w:Int){X:Type}(gx:X->XTz)(sh:X->Nat)(rx:St->XTz->Option X)(I:X->Prop)(s:St):Option (LA X):=match maL 3 s,find (recE 0 s) s.H.h,find (recR 1 s) s.H.h with
 | some ma,some b1,some b2=>fN (inTz s) fun ka=>fN (inTy s) fun kb=>laMe (fun x=>(gx x).m) (fun x=>(gx x).now) (fun x=>(gx x).s) (fun x=>(gx x).l) (fun x=>(gx x).na) (fun x=>(gx x).nb) [(recE 0,true),(recR 1,true),(tmK 2,false),(tmK 3,true),(frKi 3,false),(inTz,false),(inTy,false)]
   (fun x=>b1::b2::tzN c w (bmN c.W c.C c.H w) ka kb ma (gx x) (sh x))
   (fun q m now e na nb s=>match rdTz q m now e na nb s with|some x=>rx s x|none=>none) I s
 | _,_,_=>none
def laTs(c:Cf)(w:Int)(I:Nat×XTz->Prop):St->Option (LA (Nat×XTz)):=laTz c w (fun x=>x.2) (fun x=>x.1) (fun s x=>fN (shTz s) fun n=>some (n,x)) I
def laTn(c:Cf)(w:Int)(J:Nat->Int->XTz->Prop)(s:St):Option (LA (Nat×XTz)):=fN (shTz s) fun n=>laCt (laTz c w (fun x=>x.2) (fun x=>tzP n x.1) (fun s x=>fN (shTz s) fun m=>fN (match Nat.beq m n with|true=>0|false=>atZ m (tzX n) 1) fun i=>some (i,x)) fun _=>True) (fun q x=>okTz n x.1/\J (tzP n x.1) q x.2) s
def shTN(s:St):Sh:=fN (shTz s) fun n=>fN (tzX n).length fun k=>.to k
def laTc(c:Cf)(w:Int)(J:Nat->Int->XTz->Prop)(s:St):Option (LA XTz):=fN (shTz s) fun n=>laCt (laTz c w (fun x=>x) (fun _=>n) (fun _ x=>some x) fun _=>True) (J n) s
def cnTz:Con:=Con.add fRA cRA (Con.add fDi cDi (Con.add fSm cSm (Con.add fTw xTk (Con.add fLt xLt (Con.add fQw xQr (Con.add fRm xBr (Con.add fMk xMk (Con.add fRg xRg (Con.add fHi xHi (Con.add fHw xHi (Con.add fQu xQu (Con.add fLb xBl (Con.add fBit xBit (Con.add fCell xCell (conU con0)))))))))))))))
theorem cnTz_ok:zak P cnTz:=.add cRA_ok (.add cDi_ok (.add cSm_ok (.add xTk_ok (.add xLt_ok (.add xQr_ok (.add xBr_ok (.add xMk_ok (.add xRg_ok (.add xHi_ok (.add xHw_ok (.add xQu_ok (.add xBl_ok (.add xBit_ok (.add xCell_ok (conU_ok zak.nil)))))))))))))))
def tzSX:SC:=.ifc tTz 14 (.k 0) (.k 0) 0 6
def hTz(c:Cf)(v:Ev)(a:Int)(cf ln:Nat)(g:Nat->Int):HL:=[(0,eVo c v),(1,pmB 2 v.n v.a.c v.m),(2,wRow v.a.c v.n v.m),(3,clkB v.now v.dr),(4,v.x.row 5 v.a.k v.a.r),(5,v.x.famV),(6,evB 0 v.a.e),
 (7,(eR c v).b 12 13 8 9 11),(8,wRow v.b.c v.n v.m),(9,v.x.row 10 v.b.k v.b.r),(10,v.x.famV),(11,evB 0 v.b.e),(12,dum 1),(13,dum 3),(14,tzB (i6 a) false (.ifc tPo 18 (.k 0) (.k 0) 0 7)),(15,maB 16 1 cf),(16,.row tFr cf 1 (frL [fTz (i6 a) (k6 1) z6])),(17,.view 1 (fun _=>ln) [.ci .i64 fun _ e=>g e]),(18,poB (i6 a) z6 (k6 1) .nilI)]
def avTz(c:Cf)(a:Int)(I:Nat×XTz->Prop)(J1 J2:Nat->Int->XTz->Prop):AV:=.loopS 16 XTz [.renT 2,.ren inTz,.ren (frKi 3),.ren (envE 0),.ren (renE 1),.newFam 0 []] (laTs c a I) (.cutS 16 shTN XTz (laTn c a J1) .nil (.cut 18 XTz (laTc c a J2) .nil (.cut 21 XTz (laTc c a J2) .nil .nil))) .nil
def gsTz:List (Nat×G):=[(13,.newFam 0 [])]
def vTz(c:Cf)(v:Ev)(a:Int)(cf ln lc:Nat)(g:Nat->Int)(I:Nat×XTz->Prop)(J1 J2:Nat->Int->XTz->Prop):V:=verF P cnTz 6 8 fMt gsTz (avTz c a I J1 J2) (argMq tzSX 200 ln lc) ⟨hTz c v a cf ln g,19,fun _=>True⟩ (yesF 19)
def vTzO(j:Nat)(c:Cf)(v:Ev)(a:Int)(cf ln lc:Nat)(g:Nat->Int)(I:Nat×XTz->Prop)(J1 J2:Nat->Int->XTz->Prop):V:=verO 16 1 j P cnTz 6 8 fMt gsTz (avTz c a I J1 J2) (argMq tzSX 200 ln lc) ⟨hTz c v a cf ln g,19,fun _=>True⟩ (yesF 19)
def cTz:List SV->Hp->Out (SV×Hp):=fun args H=>match args with
 | [.c (.ptr ke _ _ _ _),.c (.ptr kr _ _ _ _),.c (.ifc t kx _ _ _ _),.c (.ptr ky _ _ _ _),.c (.slc kn _ _ _ ln lc),_]=>fN ke fun ke=>fN kr fun kr=>fN kx fun kx=>fN ky fun ky=>fN kn fun kn=>fN (scK (zaw ky 0 H.h)) fun kf=>fN (scK (zaw kx 5 H.h)) fun kp=>match rdMt ke kr H.h,frABD kf H.h,rowW kn H.h with
  | some (c,v,σ,τ),some (n,a,b,d,cf),some g=>match Nat.beq n.toNat 23 with
   | true=>useP (σ++τ++[kx,ky,kf,kn,kp]) 19 (argMq tzSX 200 ln.v lc.v) (hTz c v a cf ln.v g) (yesO 19 (okMq c v/\v.x.n<=v.a.r/\v.x.n<=v.b.r)) args H
   | false=>.bad 480
  | _,_,_=>.bad 482
 | _=>.bad 483
end
abbrev qTz0(a0:Rk)(l:List (Nat×P0)):List (Nat×P0):=(1,.pf (∀(i:Nat),i<a0.n->a0.kl i<=a0.kl i) (by intros;exact zq _))::(1,.pf (∀(i e:Nat),i<a0.n/\e<a0.kl i->a0.kd i e=a0.kd i e) (by intros;rfl))::l
abbrev qTz1(a0:Rk)(l:List (Nat×P0)):List (Nat×P0):=(1,.pf (∀(i e:Nat),i=0/\e<a0.n->e=e) (by intros;rfl))::(1,.pf (∀(i e:Nat),i=0/\e<a0.n->a0.kl e=a0.kl e) (by intros;rfl))::l
abbrev qTz2(l:List (Nat×P0)):List (Nat×P0):=(1,.le 0 0)::(1,.pf (∀(i:Nat),i<0->0<=0) (by intros;exact zq _))::l
abbrev qTz3(a0:XTz)(l:List (Nat×P0)):List (Nat×P0):=(1,.pf (∀(i e:Nat),i=0/\e<a0.l.n->a0.l.v.k e=a0.l.v.k e) (by intros;rfl))::(1,.pf (∀(i e:Nat),i=0/\e<a0.l.n->a0.l.v.w e=a0.l.v.w e) (by intros;rfl))::l
abbrev qTz4(a0:Ev)(a1:Mm)(k:V):V:=U (a0.n<=a0.n/\a0.n<=a0.a.c) (nN [(1,.pf (∀(i e:Nat),i=0/\e<a0.n->a1.g e=a1.g e) (by intros;rfl))] k)
abbrev qTz5(a0:XTz)(l:List (Nat×P0)):List (Nat×P0):=qL a0.l.n::qF a0.l.n a0.l.v.k::qF a0.l.n a0.l.v.w::qF a0.l.n a0.l.v.t::qF a0.l.n a0.l.v.o::qF a0.l.n a0.l.v.l::l
abbrev qTz6(a0:XTz)(l:List (Nat×P0)):List (Nat×P0):=qE a0.m.lk::qE a0.m.lc::qE a0.m.lo::qE a0.m.ln::qE a0.m.ct::l
abbrev qTz7(a0:XTz)(k:V):V:=U ((O 200-i64.wrap (a0.s+O 1)).toNat<(O 200-a0.s).toNat) (nN [qE (i64.wrap (a0.s+O 1))] k)
abbrev qTz8(a0:Rk)(l:List (Nat×P0)):List (Nat×P0):=qL a0.n::qF a0.n a0.p::qF a0.n a0.pa::qF a0.n a0.pc::qF a0.n a0.lf::qF a0.n a0.wt::qF a0.n (fun (e:Nat)=>e)::qF a0.n a0.kl::l
abbrev qTz9(a0:Cf)(a1:Int)(a2:XTz)(l:List (Nat×P0)):List (Nat×P0):=qE ((quX a0 a1 a2.lv).t)::qE ((quX a0 a1 a2.lv).b)::qE ((quX a0 a1 a2.lv).r)::qE ((quX a0 a1 a2.lv).c)::l
abbrev qTz10(a0:Cf)(l:List (Nat×P0)):List (Nat×P0):=qE a0.W::qE a0.L::qE a0.C::qE a0.T::qE a0.D::qE a0.H::l
abbrev zfh(k:V):V:=U (∀(i:Nat),0=0\/0=0) (U (∀(i:Nat),0<=0/\0<=0) k)
abbrev qTz12(a0:Ev)(a1:XTz)(l:List (Nat×P0)):List (Nat×P0):=qL a0.n::qF a0.n a1.m.g::l
abbrev qTz13(a0:Rk)(l:List (Nat×P0)):List (Nat×P0):=(1,.pf (∀(i e:Nat),i=0/\e<a0.n->a0.st e=a0.st e) (by intros;rfl))::(1,.le 1 1)::l
abbrev qTz14(a0:Cf)(l:List (Nat×P0)):List (Nat×P0):=qTz10 a0 (qE a0.B::qE a0.A::qE a0.P::l)
abbrev qTz15(a0:XTz)(l:List (Nat×P0)):List (Nat×P0):=(1,.pf (∀(i e:Nat),i=0/\e<a0.l.n->a0.l.v.t e=a0.l.v.t e) (by intros;rfl))::(1,.pf (∀(i e:Nat),i=0/\e<a0.l.n->a0.l.v.o e=a0.l.v.o e) (by intros;rfl))::(1,.pf (∀(i e:Nat),i=0/\e<a0.l.n->a0.l.v.l e=a0.l.v.l e) (by intros;rfl))::l
abbrev qTz16(l:List (Nat×P0)):List (Nat×P0):=qF 0 (fun (e:Nat)=>O 0)::qF 0 (fun (e:Nat)=>O 0)::l
abbrev qTz17(a0:XTz)(a1:Ev)(l:List (Nat×P0)):List (Nat×P0):=qE a0.now::qE a1.dr::l
abbrev qTz18(a0:XTz)(a1:Nat)(k:V):V:=U (O 0<=a0.s/\a0.s<(↑a1:Int)) (U (0<1/\0+a0.s.toNat<a1) (U (0<1/\0+a0.s.toNat<a1) k))
abbrev qTz19(a0:Ev)(l:List (Nat×P0)):List (Nat×P0):=qE a0.n::qE a0.a.c::l
abbrev qTz20(a0:Cf)(l:List (Nat×P0)):List (Nat×P0):=qTz14 a0 (qE a0.nP::qE a0.rc::qE a0.nU::qE a0.cu::l)
abbrev qTz21(a0:XTz)(l:List (Nat×P0)):List (Nat×P0):=qE a0.l.n::qE a0.na::l
abbrev qTz22(a0:Cf)(l:List (Nat×P0)):List (Nat×P0):=qTz10 a0 (qE (lS a0)::qE (lE a0)::qE (lB a0)::qE (lQ a0)::qE (lT a0)::l)
abbrev qTz23(a0:Ev)(l:List (Nat×P0)):List (Nat×P0):=qE a0.n::qE a0.b.c::l
abbrev qTz24(a0:Cf)(l:List (Nat×P0)):List (Nat×P0):=qTz14 a0 (qTz22 a0 l)
abbrev qTz25(a0:Ev)(a1:Rk)(l:List (Nat×P0)):List (Nat×P0):=qE a0.a.r::qTz8 a1 (qF a1.n a0.a.k::qF a1.n a1.st::qE a0.b.r::qTz8 a1 (qF a1.n a0.b.k::qF a1.n a1.st::l))
abbrev qTz26(a0:Ev)(a1:XTz)(l:List (Nat×P0)):List (Nat×P0):=qE a0.b.r::qE a1.l.n::qE a1.nb::l
abbrev qTz27(a0:Ev)(a1:XTz)(l:List (Nat×P0)):List (Nat×P0):=qTz26 a0 a1 (qE a0.b.c::l)
abbrev qTz28(a0:Ev)(a1:XTz)(l:List (Nat×P0)):List (Nat×P0):=qTz27 a0 a1 (qTz12 a0 a1 l)
abbrev qTz29(a0:Cf)(a1:Ev)(l:List (Nat×P0)):List (Nat×P0):=qTz20 a0 (qTz23 a1 l)
abbrev zd4(a0:Ev)(a1:XTz)(l:List (Nat×P0)):List (Nat×P0):=qTz19 a0 (qTz6 a1 (qE a0.a.c::qTz12 a0 a1 l))
abbrev qTz31(a0:XTz)(l:List (Nat×P0)):List (Nat×P0):=qE a0.cf::qE a0.cf::l
abbrev qTz32(a0:Cf)(a1:Ev)(a2:XTz)(l:List (Nat×P0)):List (Nat×P0):=qTz29 a0 a1 (qTz6 a2 (qTz17 a2 a1 l))
abbrev qTz33(a0:Ev)(a1:XTz)(a2:Cf)(l:List (Nat×P0)):List (Nat×P0):=zd4 a0 a1 (qTz32 a2 a0 a1 l)
abbrev zdu(a0:XTz)(l:List (Nat×P0)):List (Nat×P0):=qTz31 a0 ((1,.le 3 3)::l)
abbrev zf0(a0:XTz)(a1:Cf)(a2:Int)(l:List (Nat×P0)):List (Nat×P0):=qE a0.lv::qTz9 a1 a2 a0 l
abbrev qTz36(a0:Cf)(a1:Rk)(a2:Ev)(a3:XTz)(l:List (Nat×P0)):List (Nat×P0):=qTz24 a0 (qE a1.n::qE a2.a.r::qTz21 a3 (qE a3.na::qTz5 a3 (qE a3.nb::qTz5 a3 (qTz25 a2 a1 l))))
abbrev qTz37(a0:XTz)(l:List (Nat×P0)):List (Nat×P0):=qE a0.lv::qE a0.n::qE a0.u::l
abbrev qTz38(a0:XTz)(l:List (Nat×P0)):List (Nat×P0):=qE a0.x::qE a0.z::l
abbrev qTz39(a0:Ev)(a1:XTz)(a2:Cf)(a3:Rk)(l:List (Nat×P0)):List (Nat×P0):=qTz33 a0 a1 a2 (qE a3.n::qTz28 a0 a1 (qTz17 a1 a0 (qTz36 a2 a3 a0 a1 l)))
abbrev qTz40(a0:XTz)(a1:Ev)(l:List (Nat×P0)):List (Nat×P0):=qE (i64.wrap (a0.now+O 1))::qE a1.dr::l
abbrev qTz41(a0:XTz)(a1:Ev)(a2:Cf)(a3:Int)(k:Mm->V):V:=nN [qX (a0.m.acc a1.n (O 1) (quX a2 a3 a0.lv).t (a0.m.val a1.n (quX a2 a3 a0.lv).t))] (z9 Mm (fun (m':Mm)=>m'=a0.m.acc a1.n (O 1) (quX a2 a3 a0.lv).t (a0.m.val a1.n (quX a2 a3 a0.lv).t)) fun (v0:Mm)=>k v0)
abbrev qTz42(a0:XTz)(a1:Ev)(a2:Cf)(k:Mm->V):V:=nN [qX (a0.m.acc a1.n (O 3) (tkN a2.W a2.L a2.C a2.T a2.D a2.H a0.t (O 0)) (casV (a0.m.hit a1.n (tkN a2.W a2.L a2.C a2.T a2.D a2.H a0.t (O 0)) (O 1)) (a0.m.val a1.n (tkN a2.W a2.L a2.C a2.T a2.D a2.H a0.t (O 0))) (O 2)))] (z9 Mm (fun (m':Mm)=>m'=a0.m.acc a1.n (O 3) (tkN a2.W a2.L a2.C a2.T a2.D a2.H a0.t (O 0)) (casV (a0.m.hit a1.n (tkN a2.W a2.L a2.C a2.T a2.D a2.H a0.t (O 0)) (O 1)) (a0.m.val a1.n (tkN a2.W a2.L a2.C a2.T a2.D a2.H a0.t (O 0))) (O 2))) fun (v0:Mm)=>k v0)
abbrev qTz43(a0:Mm)(l:List (Nat×P0)):List (Nat×P0):=qE a0.lk::qE a0.lc::qE a0.lo::qE a0.ln::qE a0.ct::l
abbrev qTz44(a0:XTz)(a1:Ev)(a2:Cf)(a3:Int)(k:Mm->V):V:=nN [qX (a0.m.acc a1.n (O 1) (zd7 (quX a2 a3 a0.lv).r (quX a2 a3 a0.lv).c (u64.wrap (a0.x-O 1))) (a0.m.val a1.n (zd7 (quX a2 a3 a0.lv).r (quX a2 a3 a0.lv).c (u64.wrap (a0.x-O 1)))))] (z9 Mm (fun (m':Mm)=>m'=a0.m.acc a1.n (O 1) (zd7 (quX a2 a3 a0.lv).r (quX a2 a3 a0.lv).c (u64.wrap (a0.x-O 1))) (a0.m.val a1.n (zd7 (quX a2 a3 a0.lv).r (quX a2 a3 a0.lv).c (u64.wrap (a0.x-O 1))))) fun (v0:Mm)=>k v0)
abbrev qTz45(a0:XTz)(a1:Cf)(a2:Int)(l:List (Nat×P0)):List (Nat×P0):=zf0 a0 a1 a2 (qTz38 a0 l)
abbrev qTz46(k:V):V:=U (1<1+1) (U (1<1+1) k)
abbrev zhn(a0:XTz)(a1:Cf)(a2:Int)(l:List (Nat×P0)):List (Nat×P0):=zdu a0 (qTz9 a1 a2 a0 l)
abbrev zho(k:V):V:=U (0<1/\1<1+1) (U (0<1/\1<1+1) k)
abbrev qTz49(a0:Ev)(a1 a2:Mm)(a3:XTz)(k:V):V:=U (∀(e:Nat),e<a0.n->a1.g e=a2.g e) (nN (qTz17 a3 a0 []) k)
abbrev qTz50(a0:XTz)(l:List (Nat×P0)):List (Nat×P0):=qTz31 a0 ((1,.le 2 2)::l)
abbrev qTz51(a0 a1:Mm)(k:V):V:=U (a0.lk=a1.lk) (U (a0.lc=a1.lc) (U (a0.lo=a1.lo) (U (a0.ln=a1.ln) (U (a0.ct=a1.ct) k))))
abbrev qTz52(a0:Nat->Int->XTz->Prop)(a1 a2:XTz)(a3:Ev)(a4:Cf)(a5:Rk)(k:V):V:=U (a0 15 a1.s { a2 with s:=a1.s,n:=O 0,lv:=O 0,u:=O 0,x:=O 0,z:=O 0 }) (nN (qTz39 a3 a2 a4 a5 []) k)
abbrev qTz53(a0:XTz)(a1:Ev)(a2:Cf)(a3:Int)(k:Mm->V):V:=nN [qX (a0.m.acc a1.n (O 1) (bmN a2.W a2.C a2.H a3) (a0.m.val a1.n (bmN a2.W a2.C a2.H a3)))] (z9 Mm (fun (m':Mm)=>m'=a0.m.acc a1.n (O 1) (bmN a2.W a2.C a2.H a3) (a0.m.val a1.n (bmN a2.W a2.C a2.H a3))) fun (v0:Mm)=>k v0)
abbrev qTz54(a0:Rk)(l:List (Nat×P0)):List (Nat×P0):=(1,.pf (∀(i e:Nat),i=0/\e<a0.n->a0.p e=a0.p e) (by intros;rfl))::(1,.pf (∀(i e:Nat),i=0/\e<a0.n->a0.pa e=a0.pa e) (by intros;rfl))::(1,.pf (∀(i e:Nat),i=0/\e<a0.n->a0.pc e=a0.pc e) (by intros;rfl))::(1,.pf (∀(i e:Nat),i=0/\e<a0.n->a0.lf e=a0.lf e) (by intros;rfl))::(1,.pf (∀(i e:Nat),i=0/\e<a0.n->a0.wt e=a0.wt e) (by intros;rfl))::l
abbrev qTz55(a0:Ev)(a1:Mm)(l:List (Nat×P0)):List (Nat×P0):=qL a0.n::qF a0.n a1.g::l
abbrev qTz56(a0:Ev)(a1:Mm)(l:List (Nat×P0)):List (Nat×P0):=qTz19 a0 (qTz43 a1 l)
abbrev qTz57(l:List (Nat×P0)):List (Nat×P0):=(6,.lt2 0 1 0 1)::(1,.lt2 0 1 2 3)::l
abbrev qTz58(a0:Cf)(a1:Int)(a2:XTz)(l:List (Nat×P0)):List (Nat×P0):=qE (bmN a0.W a0.C a0.H a1)::qE a2.lv::l
abbrev zbp(a0:Ev)(a1:XTz)(a2:Cf)(a3:Rk)(a4:Int)(l:List (Nat×P0)):List (Nat×P0):=qTz39 a0 a1 a2 a3 (qE a4::l)
abbrev qTz60(a0:Ev)(a1:XTz)(a2:Cf)(a3:Rk)(a4:Int)(l:List (Nat×P0)):List (Nat×P0):=zbp a0 a1 a2 a3 a4 (zhn a1 a2 a4 l)
abbrev zej(a0:XTz)(a1:Nat)(k:V):V:=qTz18 a0 a1 (nN [(1,.neI 3 0)] k)
abbrev zga(k:V):V:=U (2<2+1) (U (2<2+1) k)
abbrev qTz63(a0:Ev)(a1:Mm)(a2:Cf)(l:List (Nat×P0)):List (Nat×P0):=qTz56 a0 a1 (qE a0.a.c::qTz55 a0 a1 (qTz29 a2 a0 l))
abbrev qTz64(a0:XTz)(a1:Cf)(a2:Int)(l:List (Nat×P0)):List (Nat×P0):=qE a0.lv::qE (bmN a1.W a1.C a1.H a2)::zf0 a0 a1 a2 l
abbrev qTz65(a0:XTz)(a1:Nat)(k:V):V:=U (a0.l.n+1<=a0.l.n+1/\a0.l.n+1<=a1) (U (∀(i e:Nat),i=0/\e<a0.l.n+1->(if i=0/\e=a0.l.n then O 9 else a0.l.v.k e)=if 0=0/\e=a0.l.n then O 9 else a0.l.v.k e) k)
abbrev qTz66(a0:XTz)(a1:Nat)(k:V):V:=U (a0.l.n+1<=a0.l.n+1/\a0.l.n+1<=a1) (U (∀(i e:Nat),i=0/\e<a0.l.n+1->(if i=0/\e=a0.l.n then O 5 else a0.l.v.k e)=if 0=0/\e=a0.l.n then O 5 else a0.l.v.k e) k)
abbrev qTz67(a0:Nat->Int->XTz->Prop)(a1 a2:XTz)(a3:Ev)(a4:Cf)(a5:Rk)(a6:Int)(k:V):V:=U (a0 1 a1.s { a2 with s:=a1.s,x:=O 0,z:=O 0,t:=O 0 }) (nN (zbp a3 a2 a4 a5 a6 []) k)
abbrev qTz68(a0:Nat->Int->XTz->Prop)(a1 a2:XTz)(a3:Ev)(a4:Cf)(a5:Rk)(a6:Int)(k:V):V:=U (a0 2 a1.s { a2 with s:=a1.s,x:=O 0,z:=O 0,t:=O 0 }) (nN (zbp a3 a2 a4 a5 a6 []) k)
abbrev qTz69(a0:Nat->Int->XTz->Prop)(a1 a2:XTz)(a3:Ev)(a4:Cf)(a5:Rk)(a6:Int)(k:V):V:=U (a0 3 a1.s { a2 with s:=a1.s,x:=O 0,z:=O 0,t:=O 0 }) (nN (zbp a3 a2 a4 a5 a6 []) k)
abbrev qTz70(a0:XTz)(a1:Ev)(a2:Cf)(a3:Int)(k:Mm->V):V:=nN [qX (a0.m.acc a1.n (O 3) (quX a2 a3 a0.lv).t (casV (a0.m.hit a1.n (quX a2 a3 a0.lv).t a0.z) (a0.m.val a1.n (quX a2 a3 a0.lv).t) (u64.wrap (a0.z+O 1))))] (z9 Mm (fun (m':Mm)=>m'=a0.m.acc a1.n (O 3) (quX a2 a3 a0.lv).t (casV (a0.m.hit a1.n (quX a2 a3 a0.lv).t a0.z) (a0.m.val a1.n (quX a2 a3 a0.lv).t) (u64.wrap (a0.z+O 1)))) fun (v0:Mm)=>k v0)
abbrev qTz71(k:Bool->V):V:=zfh (z9 Bool (fun (x:Bool)=>True) fun (v0:Bool)=>k v0)
abbrev qTz72(a0:XTz)(k:V):V:=nN [(6,.lt2 0 1 0 1)] (U (O 0<=O 0/\O 0<=O 2/\O 2<=(↑a0.cf:Int)) k)
abbrev qTz73(a0:XTz)(a1:Int)(l:List (Nat×P0)):List (Nat×P0):=qTz37 a0 (qTz38 a0 (qE a1::l))
abbrev qTz74(l:List (Nat×P0)):List (Nat×P0):=qTz2 (qTz2 l)
abbrev qTz75(a0:Nat×XTz->Prop)(a1 a2:XTz)(k:V):V:=U (a0 (15,{ a1 with s:=i64.wrap (a2.s+O 1),n:=O 0,lv:=O 0,u:=O 0,x:=O 0,z:=O 0 })) (qTz7 a2 k)
abbrev qTz76(a0:Int)(l:List (Nat×P0)):List (Nat×P0):=(1,.le 1 1)::qE a0::l
abbrev qTz77(a0:Rk)(a1:XTz)(k:V):V:=U (∀(i e:Nat),i=0/\e<a0.n->(if i=0/\e=0+a1.t.toNat then true else a0.st e)=if 0=0/\e=0+a1.t.toNat then true else a0.st e) (nN [(1,.le 1 1)] k)
abbrev zgl(k:V):V:=U (0<1+1) (U (0<1+1) k)
abbrev qTz79(a0:Cf)(a1:Int)(a2:XTz)(l:List (Nat×P0)):List (Nat×P0):=qTz58 a0 a1 a2 (qTz73 a2 a1 (qTz64 a2 a0 a1 l))
abbrev qTz80(a0:XTz)(l:List (Nat×P0)):List (Nat×P0):=zdu a0 (qE (O (14-5))::l)
abbrev qTz81(a0:Int)(a1:XTz)(a2:Cf)(l:List (Nat×P0)):List (Nat×P0):=qE a0::qE a0::qTz73 a1 a0 (qTz45 a1 a2 a0 l)
abbrev qTz82(a0:Cf)(a1:Int)(a2:XTz)(l:List (Nat×P0)):List (Nat×P0):=qTz9 a0 a1 a2 (qTz81 a1 a2 a0 l)
abbrev zfg(a0:Ev)(a1:XTz)(a2:Cf)(a3:Rk)(a4:Int)(l:List (Nat×P0)):List (Nat×P0):=qTz60 a0 a1 a2 a3 a4 (qTz81 a4 a1 a2 l)
abbrev qTz84(a0:Ev)(a1:Mm)(a2:Cf)(l:List (Nat×P0)):List (Nat×P0):=qTz63 a0 a1 a2 (qTz43 a1 l)
abbrev qTz85(a0:Ev)(a1 a2:Mm)(k:V):V:=nN [(1,.le 1 1)] (U (a0.n<=a0.n/\a0.n<=a0.b.c) (U (∀(i e:Nat),i=0/\e<a0.n->a1.g e=a2.g e) k))
abbrev qTz86(a0:XTz)(a1:Ev)(a2:Cf)(a3:Int)(k:V):V:=nN [qE (a0.m.val a1.n (bmN a2.W a2.C a2.H a3))] (U (O 0<=a0.m.val a1.n (bmN a2.W a2.C a2.H a3)/\a0.m.val a1.n (bmN a2.W a2.C a2.H a3)<=O 18446744073709551615) k)
abbrev qTz87(a0:Rk)(a1:Ev)(a2:XTz)(l:List (Nat×P0)):List (Nat×P0):=qE a0.n::qTz28 a1 a2 l
abbrev qTz88(a0:Rk)(a1:Ev)(k:V):V:=nN [(1,.le 1 1)] (U (a0.n<=a0.n/\a0.n<=a1.a.r) (nN (qTz54 a0 (qTz1 a0 [(1,.pf (∀(i e:Nat),i=0/\e<a0.n->a1.a.k e=a1.a.k e) (by intros;rfl))])) k))
abbrev qTz89(a0:Rk)(a1:Ev)(k:V):V:=nN [(1,.le 1 1)] (U (a0.n<=a0.n/\a0.n<=a1.b.r) (nN (qTz54 a0 (qTz1 a0 [(1,.pf (∀(i e:Nat),i=0/\e<a0.n->a1.b.k e=a1.b.k e) (by intros;rfl))])) k))
abbrev qTz90(a0:XTz)(a1:Ev)(a2:Cf)(a3:Int)(k:Mm->V):V:=nN [qX (a0.m.acc a1.n (O 5) (bmN a2.W a2.C a2.H a3) (bits BinOp.and IntKind.u64 (a0.m.val a1.n (bmN a2.W a2.C a2.H a3)) (bits BinOp.xor IntKind.u64 (if IntKind.u64.signed=true then -O 1 else IntKind.u64.max) (bitM a0.lv))))] (z9 Mm (fun (m':Mm)=>m'=a0.m.acc a1.n (O 5) (bmN a2.W a2.C a2.H a3) (bits BinOp.and IntKind.u64 (a0.m.val a1.n (bmN a2.W a2.C a2.H a3)) (bits BinOp.xor IntKind.u64 (if IntKind.u64.signed=true then -O 1 else IntKind.u64.max) (bitM a0.lv)))) fun (v0:Mm)=>k v0)
abbrev qTz91(a0:Rk)(l:List (Nat×P0)):List (Nat×P0):=qL a0.n::qTz0 a0 l
abbrev qTz92(a0:Rk)(a1:Ev)(a2:XTz)(k:V):V:=nN (qTz87 a0 a1 a2 (qTz74 [(1,.le 0 1)])) (U (0<=a0.n/\0<=a1.b.r) (nN [(1,.le 0 1)] (U (0<=a2.l.n/\0<=a2.nb) k)))
abbrev qTz93(a0:Cf)(a1:Int)(a2:XTz)(k:V):V:=U ((quX a0 a1 a2.lv).c<=O 9223372036854775807) (nN [qE (zd7 (quX a0 a1 a2.lv).r (quX a0 a1 a2.lv).c (u64.wrap (a2.x-O 1)))] k)
abbrev qTz94(a0:Nat×XTz->Prop)(a1 a2:XTz)(k:V):V:=U (a0 (1,{ a1 with s:=i64.wrap (a2.s+O 1),x:=O 0,z:=O 0,t:=O 0 })) (qTz7 a2 k)
abbrev qTz95(a0:Nat×XTz->Prop)(a1 a2:XTz)(k:V):V:=U (a0 (2,{ a1 with s:=i64.wrap (a2.s+O 1),x:=O 0,z:=O 0,t:=O 0 })) (qTz7 a2 k)
abbrev qTz96(a0:Nat×XTz->Prop)(a1 a2:XTz)(k:V):V:=U (a0 (3,{ a1 with s:=i64.wrap (a2.s+O 1),x:=O 0,z:=O 0,t:=O 0 })) (qTz7 a2 k)
abbrev qTz97(a0:Nat->Int->XTz->Prop)(a1 a2:XTz)(a3:Ev)(a4:Cf)(a5:Rk)(a6:Int)(k:V):V:=U (a0 14 a1.s { a2 with s:=a1.s,t:=O 0 }) (nN (zbp a3 a2 a4 a5 a6 []) k)
abbrev ze9(a0:XTz)(a1:Ev)(a2:Cf)(a3:Int)(l:List (Nat×P0)):List (Nat×P0):=qE a0.x::qE (a0.m.val a1.n (quX a2 a3 a0.lv).t)::l
abbrev qTz99(a0:XTz)(k:Bool->V):V:=nN [qE a0.x] (z9 Bool (fun (x:Bool)=>True) fun (v0:Bool)=>k v0)
abbrev qTz100(a0:Nat->Int->XTz->Prop)(a1 a2:XTz)(a3:Ev)(a4:Cf)(a5:Rk)(a6:Int)(k:V):V:=U (a0 0 a1.s { a2 with s:=a1.s,lv:=O 0,u:=O 0,x:=O 0,z:=O 0,t:=O 0 }) (nN (zbp a3 a2 a4 a5 a6 []) k)
abbrev qTz101(a0:XTz)(a1:Rk)(k:V):V:=U (O 0<=a0.t/\a0.t<(↑a1.n:Int)) (U (0<1/\0+a0.t.toNat<a1.n) k)
abbrev zcp(a0:XTz)(a1:Nat)(k:V):V:=qTz18 a0 a1 (nN [(1,.neI 13 0)] k)
abbrev qTz103(a0:Nat)(k:V):V:=nN [(6,.lt2 0 1 0 1)] (U (O 0<=O 0/\O 0<=O 1/\O 1<=(↑a0:Int)) k)
abbrev ze3(a0:XTz)(a1:Int)(a2:Cf)(k:Bool->V):V:=nN (qTz73 a0 a1 (qTz45 a0 a2 a1 [])) (z9 Bool (fun (x:Bool)=>True) fun (v0:Bool)=>k v0)
abbrev qTz105(a0:Cf)(a1:Int)(a2:XTz)(k:V):V:=U ((quN a0.W a0.L a0.C a0.D a0.H a1 a2.lv).t=(quX a0 a1 a2.lv).t) (U ((quN a0.W a0.L a0.C a0.D a0.H a1 a2.lv).b=(quX a0 a1 a2.lv).b) k)
abbrev qTz106(a0:Cf)(a1:Int)(a2:XTz)(k:V):V:=U ((quN a0.W a0.L a0.C a0.D a0.H a1 a2.lv).r=(quX a0 a1 a2.lv).r) (U ((quN a0.W a0.L a0.C a0.D a0.H a1 a2.lv).c=(quX a0 a1 a2.lv).c) k)
abbrev qTz107(a0:XTz)(a1:Ev)(a2:Cf)(a3:Int)(k:Mm->V):V:=nN [qX (a0.m.acc a1.n (O 2) (quX a2 a3 a0.lv).b a0.x)] (z9 Mm (fun (m':Mm)=>m'=a0.m.acc a1.n (O 2) (quX a2 a3 a0.lv).b a0.x) fun (v0:Mm)=>k v0)
abbrev qTz108(k:V):V:=U (0<1/\1<1+1) (qTz46 k)
abbrev zdr(a0:Int)(a1:XTz)(l:List (Nat×P0)):List (Nat×P0):=qE a0::qE a0::qTz37 a1 l
abbrev qTz110(a0:XTz)(a1:Int)(l:List (Nat×P0)):List (Nat×P0):=qTz50 a0 (zdr a1 a0 (qE a1::l))
abbrev zc6(a0:Ev)(a1:XTz)(a2:Cf)(a3:Rk)(a4:Int)(l:List (Nat×P0)):List (Nat×P0):=zbp a0 a1 a2 a3 a4 (qTz110 a1 a4 l)
abbrev qTz112(l:List (Nat×P0)):List (Nat×P0):=(1,.le 0 0)::qTz16 (qTz16 (qF 0 (fun (e:Nat)=>O 0)::l))
abbrev qTz113(a0:Ev)(l:List (Nat×P0)):List (Nat×P0):=qE a0.now::qE a0.dr::l
abbrev zhe(a0:Rk)(a1:Ev)(l:List (Nat×P0)):List (Nat×P0):=qE a0.n::qE a1.a.r::l
abbrev qTz115(a0:XTz)(a1:Ev)(a2:Cf)(a3:Int)(k:Mm->V):V:=nN [qX (a0.m.acc a1.n (O 1) (quX a2 a3 a0.lv).b (a0.m.val a1.n (quX a2 a3 a0.lv).b))] (z9 Mm (fun (m':Mm)=>m'=a0.m.acc a1.n (O 1) (quX a2 a3 a0.lv).b (a0.m.val a1.n (quX a2 a3 a0.lv).b)) fun (v0:Mm)=>k v0)
abbrev qTz116(a0:Int)(a1:XTz)(a2:Ev)(a3:Cf)(l:List (Nat×P0)):List (Nat×P0):=qE a0::qE (i64.wrap (a1.m.val a2.n (zd7 (quX a3 a0 a1.lv).r (quX a3 a0 a1.lv).c (u64.wrap (a1.x-O 1)))))::l
abbrev qTz117(k:V):V:=zho (U (0<1/\1<1+1) k)
abbrev qTz118(a0:Rk)(a1:Ev)(a2:Mm)(a3:XTz)(k:V):V:=nN (qTz91 a0 (qL a0.n::qTz0 a0 [])) (U (okCm (Cm.mk a1.n a2 a3.now a0 a3.l.n a3.l.v)) k)
abbrev zeb(a0:Cf)(a1:Ev)(a2:XTz)(a3:Rk)(k:V):V:=nN (qTz32 a0 a1 a2 []) (qTz92 a3 a1 a2 k)
abbrev qTz120(a0:Ev)(a1:Mm)(a2:XTz)(k:V):V:=nN (qTz19 a0 [qE a1.ct,(1,.le 1 1)]) (qTz4 a0 a1 (U (decide (a1.ct>i64.wrap (a2.m.ct+O 1))=false) k))
abbrev qTz121(a0:Ev)(a1:Mm)(a2:Cf)(a3:Mm)(k:V):V:=nN (qTz63 a0 a1 a2 []) (qTz51 a3 a1 k)
abbrev qTz122(a0:XTz)(a1:Int)(l:List (Nat×P0)):List (Nat×P0):=qTz31 a0 (qTz76 a1 l)
abbrev qTz123(a0:Ev)(a1 a2:Mm)(a3:Rk)(k:V):V:=qTz85 a0 a1 a2 (qTz89 a3 a0 (nN (qTz13 a3 []) k))
abbrev qTz124(a0:Nat×XTz->Prop)(a1 a2:XTz)(k:V):V:=U (a0 (14,{ a1 with s:=i64.wrap (a2.s+O 1),t:=O 0 })) (qTz7 a2 k)
abbrev qTz125(a0:XTz)(a1:Ev)(a2:Rk)(l:List (Nat×P0)):List (Nat×P0):=qTz17 a0 a1 (qE a2.n::l)
abbrev qTz126(a0:XTz)(a1:Ev)(a2:Rk)(l:List (Nat×P0)):List (Nat×P0):=qTz125 a0 a1 a2 (qTz27 a1 a0 l)
abbrev qTz127(a0:Cf)(a1:XTz)(k:V):V:=U (okYn a0.W a0.L a0.C a0.T a0.D a0.H/\O 0<=O 0/\O 0<=O 4) (nN [qE (tkN a0.W a0.L a0.C a0.T a0.D a0.H a1.t (O 0))] k)
abbrev qTz128(a0:XTz)(k:Nat->V):V:=U (a0.l.n+1<=9223372036854775807/\(a0.l.n+1)*40<=140737488355328) (z9 Nat (fun (x_3:Nat)=>a0.l.n+1<=x_3) fun (v0:Nat)=>k v0)
abbrev qTz129(a0:XTz)(k:Nat->V):V:=U (a0.l.n+1<=9223372036854775807/\(a0.l.n+1)*40<=140737488355328) (z9 Nat (fun (x_6:Nat)=>a0.l.n+1<=x_6) fun (v0:Nat)=>k v0)
abbrev qTz130(a0:Ev)(a1 a2:Mm)(k:V):V:=nN (qTz23 a0 []) (qTz51 a1 a2 k)
abbrev qTz131(a0:Cf)(k:V):V:=nN (qTz74 []) (U (okYn a0.W a0.L a0.C a0.T a0.D a0.H) k)
abbrev qTz132(a0:Ev)(a1:Mm)(a2:XTz)(k:V):V:=nN (qTz56 a0 a1 [(1,.le 1 1)]) (qTz4 a0 a1 (nN [qE a2.now] k))
abbrev qTz133(a0:Ev)(a1:Mm)(a2:XTz)(a3:Rk)(k:V):V:=qTz132 a0 a1 a2 (qTz88 a3 a0 (nN (qTz13 a3 []) k))
abbrev qTz134(l:List (Nat×P0)):List (Nat×P0):=(3,.lt 2 3)::qTz57 l
abbrev qTz135(a0:Ev)(a1:XTz)(a2 a3:Mm)(a4:Rk)(k:V):V:=nN (qTz26 a0 a1 []) (qTz123 a0 a2 a3 a4 (U (a1.l.n<=a1.l.n/\a1.l.n<=a1.nb) (nN (qTz3 a1 (qTz15 a1 [])) k)))
abbrev zco(a0:Ev)(a1:XTz)(a2:Cf)(a3:Rk)(l:List (Nat×P0)):List (Nat×P0):=zd4 a0 a1 (qTz29 a2 a0 (qTz6 a1 (qTz40 a1 a0 (qTz87 a3 a0 a1 (qTz40 a1 a0 (qTz36 a2 a3 a0 a1 l))))))
abbrev qTz137(a0:Rk)(a1:Ev)(a2:XTz)(a3 a4:Mm)(k:V):V:=nN (zhe a0 a1 (qTz21 a2 [])) (qTz133 a1 a3 a2 a0 (U (a2.l.n<=a2.l.n/\a2.l.n<=a2.na) (nN (qTz3 a2 (qTz15 a2 [])) (qTz130 a1 a4 a3 (nN [qE a2.now,qE a0.n] k)))))
abbrev zc3(a0:Rk)(a1:Ev)(a2:XTz)(a3 a4:Mm)(k:V):V:=qTz137 a0 a1 a2 a3 a4 (qTz135 a1 a2 a4 a3 a0 (qTz118 a0 a1 a3 a2 (qTz120 a1 a3 a2 k)))
abbrev qTz139(a0:XTz)(k:V):V:=nN [(6,.lt2 0 1 0 1)] (U (O 0<=O 0/\O 0<=O 1/\O 1<=(↑a0.cf:Int)) k)
abbrev qTz140(a0:Cf)(a1:Int)(a2:XTz)(k:V):V:=nN [qE (bmN a0.W a0.C a0.H a1)] (U (bits BinOp.xor IntKind.u64 (if IntKind.u64.signed=true then -O 1 else IntKind.u64.max) (bitM a2.lv)=bits BinOp.xor IntKind.u64 (if IntKind.u64.signed=true then -O 1 else IntKind.u64.max) (bitM a2.lv)) k)
abbrev qTz141(a0:Cf)(a1:Int)(a2:XTz)(l:List (Nat×P0)):List (Nat×P0):=qTz79 a0 a1 a2 (qE a2.x::l)
abbrev qTz142(a0:Nat)(k:V):V:=U (O 0<=O 0/\O 0<=O 0/\O 0<=(↑a0:Int)) (nN [(12,.lt2 0 1 0 1)] k)
abbrev qTz143(a0:XTz)(l:List (Nat×P0)):List (Nat×P0):=zdu a0 (qE (O (10-5))::l)
abbrev qTz144(a0:XTz)(l:List (Nat×P0)):List (Nat×P0):=zdu a0 (qE (O (12-5))::l)
abbrev qTz145(a0:Ev)(a1:XTz)(a2:Cf)(a3:Rk)(a4:Int)(l:List (Nat×P0)):List (Nat×P0):=qTz60 a0 a1 a2 a3 a4 (qE a4::qE a4::l)
abbrev zf7(a0:Ev)(a1:XTz)(a2:Cf)(a3:Rk)(a4:Int)(l:List (Nat×P0)):List (Nat×P0):=qTz145 a0 a1 a2 a3 a4 (qTz141 a2 a4 a1 l)
abbrev qTz147(a0:Int)(a1:Cf)(k:V):V:=nN [qE a0] (U (okYn a1.W a1.L a1.C a1.T a1.D a1.H/\lB a1=O 4+a1.H+a1.C+a1.W) k)
abbrev qTz148(a0:XTz)(a1:Nat)(k:V):V:=U (a0.l.n+1<=a0.l.n+1/\a0.l.n+1<=a1) (U (∀(i e:Nat),i=0/\e<a0.l.n+1->(if i=0/\e=a0.l.n then O 15 else a0.l.v.k e)=if 0=0/\e=a0.l.n then O 15 else a0.l.v.k e) k)
abbrev zf5(a0:Cf)(a1:Ev)(a2:XTz)(a3:Rk)(k:V):V:=nN [(2,.eqI 0 0)] (zeb a0 a1 a2 a3 k)
abbrev qTz150(a0:Rk)(a1:Ev)(a2:Mm)(a3:XTz)(a4:Int)(k:V):V:=nN (qTz91 a0 []) (U (okCm (Cm.mk a1.n a2 a3.now { a0 with st:=aN (0+a3.t.toNat) true a0.st } (a3.l.n+1) (Evs.mk (aN a3.l.n (O 5) a3.l.v.k) (aN a3.l.n a4 a3.l.v.w) (aN a3.l.n a3.t a3.l.v.t) (aN a3.l.n (O 0) a3.l.v.o) (aN a3.l.n (O 0) a3.l.v.l)))) k)
abbrev zcs(a0:Ev)(a1:Mm)(a2:Cf)(a3:XTz)(a4:Rk)(l:List (Nat×P0)):List (Nat×P0):=qTz84 a0 a1 a2 (qTz126 a3 a0 a4 (qTz55 a0 a1 (qTz17 a3 a0 (qTz36 a2 a4 a0 a3 l))))
abbrev qTz152(a0:Ev)(a1:Mm)(a2:Cf)(a3:Mm)(a4:XTz)(a5:Rk)(k:V):V:=qTz121 a0 a1 a2 a3 (nN (qTz126 a4 a0 a5 []) k)
abbrev zg6(a0:XTz)(a1:Cf)(a2:Int)(l:List (Nat×P0)):List (Nat×P0):=qTz80 a0 (qTz82 a1 a2 a0 l)
abbrev qTz154(a0:XTz)(a1:Ev)(a2:Cf)(a3:Int)(k:Mm->V):V:=nN [qX (a0.m.acc a1.n (O 4) (bmN a2.W a2.C a2.H a3) (bits BinOp.or IntKind.u64 (a0.m.val a1.n (bmN a2.W a2.C a2.H a3)) (bitM a0.lv)))] (z9 Mm (fun (m':Mm)=>m'=a0.m.acc a1.n (O 4) (bmN a2.W a2.C a2.H a3) (bits BinOp.or IntKind.u64 (a0.m.val a1.n (bmN a2.W a2.C a2.H a3)) (bitM a0.lv))) fun (v0:Mm)=>k v0)
abbrev zc5(a0:Ev)(a1:XTz)(a2:Cf)(a3:Rk)(a4:Int)(k:Bool->V):V:=nN (qTz145 a0 a1 a2 a3 a4 []) (ze3 a1 a4 a2 fun v0=>k v0)
abbrev qTz156(a0:Cf)(a1:Int)(a2:XTz)(a3:Ev)(k:V):V:=U ((quN a0.W a0.L a0.C a0.D a0.H a1 (hiB (a2.m.val a3.n (bmN a0.W a0.C a0.H a1)))).t=(quX a0 a1 (hiB (a2.m.val a3.n (bmN a0.W a0.C a0.H a1)))).t) (U ((quN a0.W a0.L a0.C a0.D a0.H a1 (hiB (a2.m.val a3.n (bmN a0.W a0.C a0.H a1)))).b=(quX a0 a1 (hiB (a2.m.val a3.n (bmN a0.W a0.C a0.H a1)))).b) k)
abbrev qTz157(a0:Cf)(a1:Int)(a2:XTz)(a3:Ev)(k:V):V:=U ((quN a0.W a0.L a0.C a0.D a0.H a1 (hiB (a2.m.val a3.n (bmN a0.W a0.C a0.H a1)))).r=(quX a0 a1 (hiB (a2.m.val a3.n (bmN a0.W a0.C a0.H a1)))).r) (U ((quN a0.W a0.L a0.C a0.D a0.H a1 (hiB (a2.m.val a3.n (bmN a0.W a0.C a0.H a1)))).c=(quX a0 a1 (hiB (a2.m.val a3.n (bmN a0.W a0.C a0.H a1)))).c) k)
abbrev qTz158(l:List (Nat×P0)):List (Nat×P0):=(3,.lt 2 3)::(6,.lt2 0 1 2 3)::l
abbrev zcr(a0:Ev)(a1:XTz)(k:V):V:=nN ((6,.lt2 0 1 0 1)::qTz19 a0 [qE a1.m.ct,(1,.le 1 1)]) (U (a0.n<=a0.n/\a0.n<=a0.a.c) (nN [(1,.pf (∀(i e:Nat),i=0/\e<a0.n->a1.m.g e=a1.m.g e) (by intros;rfl))] k))
abbrev qTz160(a0:XTz)(a1:Cf)(a2:Int)(k:Bool->V):V:=nN (zf0 a0 a1 a2 []) (z9 Bool (fun (x:Bool)=>True) fun (v0:Bool)=>k v0)
abbrev qTz161(a0:XTz)(a1:Cf)(a2:Int)(k:Bool->V):V:=nN (qTz64 a0 a1 a2 []) (z9 Bool (fun (x:Bool)=>True) fun (v0:Bool)=>k v0)
abbrev zef(a0:XTz)(a1:Cf)(a2:Int)(l:List (Nat×P0)):List (Nat×P0):=zhn a0 a1 a2 (qTz81 a2 a0 a1 l)
abbrev qTz163(a0:Nat×XTz->Prop)(a1 a2:XTz)(k:V):V:=U (a0 (0,{ a1 with s:=i64.wrap (a2.s+O 1),lv:=O 0,u:=O 0,x:=O 0,z:=O 0,t:=O 0 })) (qTz7 a2 k)
abbrev qTz164(a0:XTz)(a1:Int)(a2:Cf)(l:List (Nat×P0)):List (Nat×P0):=qTz110 a0 a1 (zf0 a0 a2 a1 l)
abbrev qTz165(a0:XTz)(a1:Int)(a2:Cf)(l:List (Nat×P0)):List (Nat×P0):=qTz110 a0 a1 (qTz64 a0 a2 a1 l)
abbrev qTz166(a0:Cf)(k:V):V:=U (okYn a0.W a0.L a0.C a0.T a0.D a0.H/\lQ a0=lQn a0.W a0.C a0.H) (nN [(10,.lt2 0 1 0 1)] k)
abbrev qTz167(a0:Rk)(a1:Ev)(a2:Mm)(a3:XTz)(a4:Int)(k:V):V:=nN (qTz91 a0 []) (U (okCm (Cm.mk a1.n a2 a3.now a0 (a3.l.n+1) (Evs.mk (aN a3.l.n (O 9) a3.l.v.k) (aN a3.l.n a4 a3.l.v.w) (aN a3.l.n a3.t a3.l.v.t) (aN a3.l.n (O 0) a3.l.v.o) (aN a3.l.n (O 0) a3.l.v.l)))) k)
abbrev qTz168(a0:Nat->Int->XTz->Prop)(a1:XTz)(a2:Mm)(a3:Ev)(a4:Cf)(a5:Int)(a6:Mm)(a7:Rk)(k:V):V:=U ((1<=1/\1<1+3)/\a0 10 a1.s { a1 with m:=a2,z:=a1.m.val a3.n (quX a4 a5 a1.lv).t,t:=O 0 }) (qTz152 a3 a2 a4 a6 a1 a7 k)
abbrev qTz169(a0:Nat->Int->XTz->Prop)(a1 a2:XTz)(a3:Ev)(a4:Cf)(a5:Rk)(k:V):V:=U (a0 15 a1.s (XTz.mk a1.s a2.m (i64.wrap (a2.now+O 1)) (O 0) (O 0) (O 0) (O 0) (O 0) a2.t a2.cf a2.l a2.na a2.nb)) (nN (zco a3 a2 a4 a5 []) k)
abbrev qTz170(l:List (Nat×P0)):List (Nat×P0):=(1,.lt2 0 1 2 3)::qTz134 l
abbrev qTz171(k:V):V:=U (0<1/\2<2+1) (U (0<1/\2<2+1) k)
abbrev qTz172(a0:XTz)(a1:Int)(l:List (Nat×P0)):List (Nat×P0):=qF (a0.l.n+1) (fun (e:Nat)=>if 0=0/\e=a0.l.n then O 15 else a0.l.v.k e)::qF (a0.l.n+1) (fun (e:Nat)=>if 0=0/\e=a0.l.n then a1 else a0.l.v.w e)::l
abbrev qTz173(a0:XTz)(a1:Rk)(k:V):V:=qTz101 a0 a1 (U (0<1/\0+a0.t.toNat<a1.n) k)
abbrev qTz174(a0:XTz)(k:V):V:=nN [qE a0.lv] (zfh k)
abbrev qTz175(a0:XTz)(a1:Int)(k:V):V:=nN (qTz110 a0 a1 []) (qTz174 a0 k)
abbrev qTz176(a0:XTz)(a1:Ev)(a2:Cf)(a3:Int)(k:Mm->V):V:=nN [qX (a0.m.acc a1.n (O 2) (quX a2 a3 a0.lv).b (u64.wrap (a0.x-O 1)))] (z9 Mm (fun (m':Mm)=>m'=a0.m.acc a1.n (O 2) (quX a2 a3 a0.lv).b (u64.wrap (a0.x-O 1))) fun (v0:Mm)=>k v0)
abbrev qTz177(a0:Int)(a1:XTz)(a2:Ev)(a3:Cf)(l:List (Nat×P0)):List (Nat×P0):=qE a0::qE (hiB (a1.m.val a2.n (bmN a3.W a3.C a3.H a0)))::l
abbrev qTz178(a0:Ev)(a1 a2:Mm)(a3:XTz)(a4:Cf)(a5:Rk)(k:V):V:=nN [qL a0.n] (qTz49 a0 a1 a2 a3 (nN (qTz36 a4 a5 a0 a3 []) k))
abbrev zby(a0:Ev)(a1:Mm)(a2:Cf)(a3:Mm)(a4:XTz)(a5:Rk)(k:V):V:=qTz152 a0 a1 a2 a3 a4 a5 (qTz178 a0 a3 a1 a4 a2 a5 k)
abbrev qTz180(k:Nat->V):V:=U (2+1<=9223372036854775807/\(2+1)*160<=140737488355328) (z9 Nat (fun (x:Nat)=>2+1<=x) fun (v0:Nat)=>k v0)
abbrev qTz181(k:V):V:=U (0<1/\2<2+1) (zga k)
abbrev qTz182(k:V):V:=qTz108 (U (1<1+1) k)
abbrev qTz183(l:List (Nat×P0)):List (Nat×P0):=(8,.lt2 0 1 0 1)::(1,.lt2 0 1 1 3)::(4,.lt2 0 1 0 1)::l
abbrev qTz184(a0:XTz)(a1:Int)(l:List (Nat×P0)):List (Nat×P0):=qTz122 a0 a1 (qE a0.t::qE a1::qE a0.t::l)
abbrev zha(a0:XTz)(a1:Int)(k:V):V:=nN (qTz184 a0 a1 []) (zfh k)
abbrev zcu(a0:Nat×XTz->Prop)(a1:Mm)(a2:Ev)(a3:Nat)(a4:Cf)(a5:Rk)(k:V):V:=U (a0 (0,XTz.mk (O 0) a1 a2.now (O 0) (O 0) (O 0) (O 0) (O 0) (O 0) a3 (El.mk 0 (Evs.mk (fun (i:Nat)=>O 0) (fun (i:Nat)=>O 0) (fun (i:Nat)=>O 0) (fun (i:Nat)=>O 0) fun (i:Nat)=>O 0)) a2.a.e a2.b.e)) (nN ((1,.eqI 0 0)::qTz84 a2 a1 a4 (qTz113 a2 (qE a5.n::qE a2.b.r::(1,.eq 0 0)::qE a2.b.e::qE a2.b.c::qTz55 a2 a1 (qTz113 a2 (qTz24 a4 (zhe a5 a2 ((1,.eq 0 0)::qE a2.a.e::qE a2.a.e::qTz112 (qE a2.b.e::qTz112 (qTz25 a2 a5 []))))))))) k)
abbrev qTz187(a0:Nat->Int->XTz->Prop)(a1 a2:XTz)(a3:Ev)(a4:Cf)(a5:Rk)(a6:Int)(k:V):V:=U (a0 10 a1.s { a2 with s:=a1.s,t:=O 0 }) (nN (zbp a3 a2 a4 a5 a6 []) k)
abbrev qTz188(a0:Nat->Int->XTz->Prop)(a1 a2:XTz)(a3:Ev)(a4:Cf)(a5:Rk)(a6:Int)(k:V):V:=U (a0 11 a1.s { a2 with s:=a1.s,t:=O 0 }) (nN (zfg a3 a2 a4 a5 a6 []) k)
abbrev qTz189(a0:Nat->Int->XTz->Prop)(a1 a2:XTz)(a3:Ev)(a4:Cf)(a5:Rk)(a6:Int)(k:V):V:=U (a0 12 a1.s { a2 with s:=a1.s,t:=O 0 }) (nN (zbp a3 a2 a4 a5 a6 []) k)
abbrev qTz190(a0:Nat->Int->XTz->Prop)(a1 a2:XTz)(a3:Ev)(a4:Cf)(a5:Rk)(a6:Int)(k:V):V:=U (a0 13 a1.s { a2 with s:=a1.s,t:=O 0 }) (nN (zfg a3 a2 a4 a5 a6 []) k)
abbrev qTz191(a0:Cf)(a1:Int)(a2:XTz)(l:List (Nat×P0)):List (Nat×P0):=qTz9 a0 a1 a2 (qE (u64.wrap (a2.x-O 1))::l)
abbrev qTz192(a0:Nat->Int->XTz->Prop)(a1 a2:XTz)(a3:Ev)(a4:Cf)(a5:Rk)(a6:Int)(k:V):V:=U (a0 7 a1.s { a2 with s:=a1.s,t:=O 0 }) (nN (zfg a3 a2 a4 a5 a6 []) k)
abbrev qTz193(a0:Nat->Int->XTz->Prop)(a1 a2:XTz)(a3:Ev)(a4:Cf)(a5:Rk)(a6:Int)(k:V):V:=U (a0 4 a1.s { a2 with s:=a1.s,t:=O 0 }) (nN (zf7 a3 a2 a4 a5 a6 []) k)
abbrev qTz194(a0:Nat->Int->XTz->Prop)(a1 a2:XTz)(a3:Ev)(a4:Cf)(a5:Rk)(a6:Int)(k:V):V:=U (a0 5 a1.s { a2 with s:=a1.s,t:=O 0 }) (nN (zf7 a3 a2 a4 a5 a6 []) k)
abbrev qTz195(a0:Nat->Int->XTz->Prop)(a1 a2:XTz)(a3:Ev)(a4:Cf)(a5:Rk)(a6:Int)(k:V):V:=U (a0 6 a1.s { a2 with s:=a1.s,t:=O 0 }) (nN (zf7 a3 a2 a4 a5 a6 []) k)
abbrev qTz196(a0:Nat->Int->XTz->Prop)(a1 a2:XTz)(a3:Ev)(a4:Cf)(a5:Rk)(a6:Int)(k:V):V:=U (a0 8 a1.s { a2 with s:=a1.s,t:=O 0 }) (nN (zfg a3 a2 a4 a5 a6 []) k)
abbrev qTz197(a0:Nat->Int->XTz->Prop)(a1 a2:XTz)(a3:Ev)(a4:Cf)(a5:Rk)(a6:Int)(k:V):V:=U (a0 9 a1.s { a2 with s:=a1.s,t:=O 0 }) (nN (zfg a3 a2 a4 a5 a6 []) k)
abbrev zfy(l:List (Nat×P0)):List (Nat×P0):=qE false::qE false::l
abbrev qTz199(a0:Rk)(a1:XTz)(k:V):V:=U (∀(i e:Nat),i=0/\e<a0.n->(if i=0/\e=0+a1.t.toNat then true else a0.st e)=a0.st e) (nN [(1,.le 1 1)] k)
abbrev qTz200(l:List (Nat×P0)):List (Nat×P0):=(6,.lt2 0 1 0 1)::(1,.lt2 0 1 1 2)::l
abbrev qTz201(a0:XTz)(k:V):V:=nN [(13,.lt2 0 1 0 1)] (U (a0.l.n<=a0.l.n/\a0.na=a0.na) k)
abbrev qTz202(k:V):V:=nN [(13,.lt2 0 1 0 1)] (qTz117 k)
abbrev zeu(a0:Rk)(a1:Ev)(a2:XTz)(a3 a4:Mm)(k:V):V:=nN [(3,.lt 2 3)] (zc3 a0 a1 a2 a3 a4 k)
abbrev zct(a0:Int)(a1:Nat×XTz->Prop)(k:Bool->V):V:=nN (qTz76 a0 [(1,.eqI 0 0),qE a0]) (zfh (U (∀(x:Nat×XTz),a1 x->x.fst<16) (z9 Bool (fun (x:Bool)=>True) fun (v0:Bool)=>k v0)))
abbrev zd1(a0:XTz)(a1:Nat)(l:List (Nat×P0)):List (Nat×P0):=qE (a0.l.n+1)::qE a1::l
abbrev zep(a0:XTz)(a1:Int)(l:List (Nat×P0)):List (Nat×P0):=qTz122 a0 a1 (qE a0.n::l)
abbrev qTz207(a0:Nat->Int->XTz->Prop)(a1 a2:XTz)(a3:Ev)(a4:Cf)(a5:Rk)(k:V):V:=U (a0 1 a1.s { a2 with s:=a1.s,now:=i64.wrap (a2.now+O 1),x:=O 0,z:=O 0,t:=O 0 }) (nN (zco a3 a2 a4 a5 []) k)
abbrev qTz208(a0:Nat->Int->XTz->Prop)(a1 a2:XTz)(a3:Ev)(a4:Cf)(a5:Rk)(k:V):V:=U (a0 2 a1.s { a2 with s:=a1.s,now:=i64.wrap (a2.now+O 1),x:=O 0,z:=O 0,t:=O 0 }) (nN (zco a3 a2 a4 a5 []) k)
abbrev qTz209(a0:Nat->Int->XTz->Prop)(a1 a2:XTz)(a3:Ev)(a4:Cf)(a5:Rk)(k:V):V:=U (a0 3 a1.s { a2 with s:=a1.s,now:=i64.wrap (a2.now+O 1),x:=O 0,z:=O 0,t:=O 0 }) (nN (zco a3 a2 a4 a5 []) k)
abbrev ze6(a0:XTz)(a1:Int)(k:V):V:=U (∀(i e:Nat),i=0/\e<a0.l.n+1->(if i=0/\e=a0.l.n then a1 else a0.l.v.w e)=if 0=0/\e=a0.l.n then a1 else a0.l.v.w e) (U (∀(i e:Nat),i=0/\e<a0.l.n+1->(if i=0/\e=a0.l.n then a0.t else a0.l.v.t e)=if 0=0/\e=a0.l.n then a0.t else a0.l.v.t e) (U (∀(i e:Nat),i=0/\e<a0.l.n+1->(if i=0/\e=a0.l.n then O 0 else a0.l.v.o e)=if 0=0/\e=a0.l.n then O 0 else a0.l.v.o e) (U (∀(i e:Nat),i=0/\e<a0.l.n+1->(if i=0/\e=a0.l.n then O 0 else a0.l.v.l e)=if 0=0/\e=a0.l.n then O 0 else a0.l.v.l e) k)))
abbrev zfq(l:List (Nat×P0)):List (Nat×P0):=qTz57 (qTz134 l)
abbrev zcv(a0:XTz)(a1:Nat)(a2:Nat->Int)(a3:Ev)(a4:XTz)(a5:Cf)(a6:Rk)(k:Mm->V):V:=zej a0 a1 (qTz18 a0 a1 (nN ((1,.neI 7 0)::qE (i64.wrap ((a2 (0+a0.s.toNat)).tdiv (O 3)))::qE (i64.wrap ((a2 (0+a0.s.toNat)).tdiv (O 7)))::qTz33 a3 a4 a5 []) (qTz92 a6 a3 a4 (U (a3.n<=1000000/\okMw (O 1000000000) a4.m) (U (∃(x:Mm),okMw (a4.m.ct+O 1) x) (z9 Mm (okMw (a4.m.ct+O 1)) fun (v0:Mm)=>k v0))))))
abbrev zfv(a0:Ev)(a1:XTz)(a2:Cf)(a3:Rk)(a4:Int)(l:List (Nat×P0)):List (Nat×P0):=qTz145 a0 a1 a2 a3 a4 (qTz79 a2 a4 a1 l)
abbrev qTz214(a0:XTz)(k:V):V:=nN [(5,.lt 0 1)] (U (a0.l.n<=a0.l.n/\a0.nb=a0.nb) k)
abbrev qTz215(a0:Nat->Int->XTz->Prop)(a1:XTz)(a2:Mm)(a3:XTz)(a4:Ev)(a5:Cf)(a6:Rk)(k:V):V:=U (a0 15 a1.s (XTz.mk a1.s a2 a3.now (O 0) (O 0) (O 0) (O 0) (O 0) a3.t a3.cf a3.l a3.na a3.nb)) (nN (zcs a4 a2 a5 a3 a6 []) k)
abbrev zhb(k:V):V:=qTz46 (qTz46 k)
abbrev qTz217(a0:Cf)(a1:Int)(a2:XTz)(a3:Ev)(a4:Rk)(k:V):V:=nN [qE ((quX a0 a1 a2.lv).t)] (zf5 a0 a3 a2 a4 k)
abbrev qTz218(a0:XTz)(a1:Ev)(a2:Cf)(a3:Int)(k:V):V:=U (decide (i64.wrap (u64.wrap (a0.x-a0.m.val a1.n (quX a2 a3 a0.lv).t))<=O 0)=true) (qTz72 a0 k)
abbrev qTz219(a0:XTz)(a1:Ev)(a2:Cf)(a3:Int)(k:V):V:=nN (qTz158 []) (U (decide (i64.wrap (u64.wrap (a0.x-a0.m.val a1.n (quX a2 a3 a0.lv).t))<=O 0)=false) k)
abbrev qTz220(a0:XTz)(l:List (Nat×P0)):List (Nat×P0):=qF (a0.l.n+1) (fun (e:Nat)=>if 0=0/\e=a0.l.n then a0.t else a0.l.v.t e)::qF (a0.l.n+1) (fun (e:Nat)=>if 0=0/\e=a0.l.n then O 0 else a0.l.v.o e)::qF (a0.l.n+1) (fun (e:Nat)=>if 0=0/\e=a0.l.n then O 0 else a0.l.v.l e)::l
abbrev zg9(a0:XTz)(a1:Cf)(a2:Int)(l:List (Nat×P0)):List (Nat×P0):=qTz143 a0 (qTz82 a1 a2 a0 l)
abbrev qTz222(a0:XTz)(l:List (Nat×P0)):List (Nat×P0):=qE a0.z::qE (u64.wrap (a0.z+O 1))::l
abbrev zhc(a0:XTz)(a1:Cf)(a2:Int)(l:List (Nat×P0)):List (Nat×P0):=qTz144 a0 (qTz82 a1 a2 a0 l)
abbrev qTz224(k:V):V:=nN [(8,.lt2 0 1 0 1)] (U (0<1/\0<1+1) (nN [(4,.lt2 0 1 0 1)] k))
abbrev qTz225(a0:XTz)(k:V):V:=nN [qE a0.lv] (U True k)
abbrev qTz226(l:List (Nat×P0)):List (Nat×P0):=(1,.eqI 1 1)::(1,.eqI 2 2)::l
abbrev qTz227(k:V):V:=nN [(3,.lt2 0 1 0 1)] (qTz117 k)
abbrev qTz228(a0:Nat×XTz->Prop)(a1 a2:XTz)(k:V):V:=U (a0 (10,{ a1 with s:=i64.wrap (a2.s+O 1),t:=O 0 })) (qTz7 a2 k)
abbrev qTz229(a0:Nat×XTz->Prop)(a1 a2:XTz)(k:V):V:=U (a0 (11,{ a1 with s:=i64.wrap (a2.s+O 1),t:=O 0 })) (qTz7 a2 k)
abbrev qTz230(a0:Nat×XTz->Prop)(a1 a2:XTz)(k:V):V:=U (a0 (12,{ a1 with s:=i64.wrap (a2.s+O 1),t:=O 0 })) (qTz7 a2 k)
abbrev qTz231(a0:Nat×XTz->Prop)(a1 a2:XTz)(k:V):V:=U (a0 (13,{ a1 with s:=i64.wrap (a2.s+O 1),t:=O 0 })) (qTz7 a2 k)
abbrev qTz232(a0:Nat×XTz->Prop)(a1 a2:XTz)(k:V):V:=U (a0 (7,{ a1 with s:=i64.wrap (a2.s+O 1),t:=O 0 })) (qTz7 a2 k)
abbrev qTz233(a0:Nat×XTz->Prop)(a1 a2:XTz)(k:V):V:=U (a0 (4,{ a1 with s:=i64.wrap (a2.s+O 1),t:=O 0 })) (qTz7 a2 k)
abbrev qTz234(a0:Nat×XTz->Prop)(a1 a2:XTz)(k:V):V:=U (a0 (5,{ a1 with s:=i64.wrap (a2.s+O 1),t:=O 0 })) (qTz7 a2 k)
abbrev qTz235(a0:Nat×XTz->Prop)(a1 a2:XTz)(k:V):V:=U (a0 (6,{ a1 with s:=i64.wrap (a2.s+O 1),t:=O 0 })) (qTz7 a2 k)
abbrev qTz236(a0:Nat×XTz->Prop)(a1 a2:XTz)(k:V):V:=U (a0 (8,{ a1 with s:=i64.wrap (a2.s+O 1),t:=O 0 })) (qTz7 a2 k)
abbrev qTz237(a0:Nat×XTz->Prop)(a1 a2:XTz)(k:V):V:=U (a0 (9,{ a1 with s:=i64.wrap (a2.s+O 1),t:=O 0 })) (qTz7 a2 k)
abbrev qTz238(k:V):V:=qTz46 (U (1<1+1) k)
abbrev qTz239(l:List (Nat×P0)):List (Nat×P0):=(13,.lt2 0 1 0 1)::(3,.lt2 0 1 1 2)::l
abbrev qTz240(a0:XTz)(a1:Ev)(a2:Cf)(k:V):V:=U ((!(a0.m).hit a1.n (tkN a2.W a2.L a2.C a2.T a2.D a2.H a0.t (O 0)) (O 1))=false) (qTz227 k)
abbrev qTz241(a0:XTz)(k:Nat->V):V:=U (1<=1/\a0.cf=a0.cf) (U (1+1<=9223372036854775807/\(1+1)*160<=140737488355328) (z9 Nat (fun (x:Nat)=>1+1<=x) fun (v0:Nat)=>nN [(8,.lt2 0 1 0 1)] (k v0)))
abbrev qTz242(a0:Cf)(l:List (Nat×P0)):List (Nat×P0):=(19,.lt2 0 1 0 1)::qTz22 a0 l
abbrev qTz243(a0:Cf)(l:List (Nat×P0)):List (Nat×P0):=(22,.lt2 0 1 0 1)::qTz22 a0 l
abbrev qTzs0(c:Cf)(a:Int)(x_2:XTz)(x:XTz)(ln:Nat)(g:Nat->Int)(v:Ev)(J2:Nat->Int->XTz->Prop)(I:Nat×XTz->Prop):V:=
  nN (qTz9 c a x_2 [qE a,qE a]) (ze3 x_2 a c fun x_3=>zj x_3
 (zj (decide (x.s<(↑ln:Int)))
 (zej x ln (zj ((g (0+x.s.toNat)).tmod (O 3) == O 1)
 (zcv x ln g v x_2 c v.x fun x_4=>U (J2 14 x.s { x_2 with s:=x.s,m:=x_4,t:=O 0 }) (nN (zcs v x_4 c x_2 v.x (qE a::zg6 x_2 c a [])) zx))
 (qTz97 J2 x x_2 v c v.x a (nN (zg6 x_2 c a []) zx))))
 (qTz97 J2 x x_2 v c v.x a (nN (zg6 x_2 c a []) zx)))
 (z9 XTz (J2 14 x.s) fun (x_4:XTz)=>nN (zbp v x_4 c v.x a (qTz80 x_4 (qTz9 c a x_4 [qE a,qE a]))) (ze3 x_4 a c fun x_5=>zj x_5
 (zj (decide (x.s<(↑ln:Int)))
 (zcp x ln (zj ((g (0+x.s.toNat)).tmod (O 13) == O 5)
 (U (J2 14 x.s { x_4 with s:=x.s,now:=i64.wrap (x_4.now+O 1),t:=O 0 }) (nN (zco v x_4 c v.x (qE a::zg6 x_4 c a [])) zx))
 (qTz97 J2 x x_4 v c v.x a (nN (zg6 x_4 c a []) zx))))
 (qTz97 J2 x x_4 v c v.x a (nN (zg6 x_4 c a []) zx)))
 (z9 XTz (J2 14 x.s) fun (x_6:XTz)=>zj (x.s == O 2)
 (qTz124 I x_6 x (nN (zbp v x_6 c v.x a (zg6 x_6 c a [])) zx))
 (qTz124 I x_6 x (nN (zbp v x_6 c v.x a (zg6 x_6 c a [])) zx))))))
abbrev qTzs1(v:Ev)(x_2:XTz)(c:Cf)(a:Int)(x:XTz)(ln:Nat)(g:Nat->Int)(J2:Nat->Int->XTz->Prop)(I:Nat×XTz->Prop):V:=
  nN (zc6 v x_2 c v.x a []) (qTz160 x_2 c a fun x_3=>zj x_3
 (zj (decide (x.s<(↑ln:Int)))
 (zej x ln (zj ((g (0+x.s.toNat)).tmod (O 3) == O 1)
 (zcv x ln g v x_2 c v.x fun x_4=>U (J2 1 x.s { x_2 with s:=x.s,m:=x_4,x:=O 0,z:=O 0,t:=O 0 }) (nN (zcs v x_4 c x_2 v.x (qE a::qTz164 x_2 a c [])) zx))
 (qTz67 J2 x x_2 v c v.x a (nN (qTz164 x_2 a c []) zx))))
 (qTz67 J2 x x_2 v c v.x a (nN (qTz164 x_2 a c []) zx)))
 (z9 XTz (J2 1 x.s) fun (x_4:XTz)=>nN (zc6 v x_4 c v.x a []) (qTz160 x_4 c a fun x_5=>zj x_5
 (zj (decide (x.s<(↑ln:Int)))
 (zcp x ln (zj ((g (0+x.s.toNat)).tmod (O 13) == O 5)
 (qTz207 J2 x x_4 v c v.x (nN (qE a::qTz164 x_4 a c []) zx))
 (qTz67 J2 x x_4 v c v.x a (nN (qTz164 x_4 a c []) zx))))
 (qTz67 J2 x x_4 v c v.x a (nN (qTz164 x_4 a c []) zx)))
 (z9 XTz (J2 1 x.s) fun (x_6:XTz)=>zj (x.s == O 2)
 (qTz94 I x_6 x (nN (zc6 v x_6 c v.x a (zf0 x_6 c a [])) zx))
 (qTz94 I x_6 x (nN (zc6 v x_6 c v.x a (zf0 x_6 c a [])) zx))))))
abbrev qTzs2(v:Ev)(x_2:XTz)(c:Cf)(a:Int)(x:XTz)(ln:Nat)(g:Nat->Int)(J2:Nat->Int->XTz->Prop)(I:Nat×XTz->Prop):V:=
  nN (zc6 v x_2 c v.x a []) (qTz161 x_2 c a fun x_3=>zj x_3
 (zj (decide (x.s<(↑ln:Int)))
 (zej x ln (zj ((g (0+x.s.toNat)).tmod (O 3) == O 1)
 (zcv x ln g v x_2 c v.x fun x_4=>U (J2 3 x.s { x_2 with s:=x.s,m:=x_4,x:=O 0,z:=O 0,t:=O 0 }) (nN (zcs v x_4 c x_2 v.x (qE a::qTz165 x_2 a c [])) zx))
 (qTz69 J2 x x_2 v c v.x a (nN (qTz165 x_2 a c []) zx))))
 (qTz69 J2 x x_2 v c v.x a (nN (qTz165 x_2 a c []) zx)))
 (z9 XTz (J2 3 x.s) fun (x_4:XTz)=>nN (zc6 v x_4 c v.x a []) (qTz161 x_4 c a fun x_5=>zj x_5
 (zj (decide (x.s<(↑ln:Int)))
 (zcp x ln (zj ((g (0+x.s.toNat)).tmod (O 13) == O 5)
 (qTz209 J2 x x_4 v c v.x (nN (qE a::qTz165 x_4 a c []) zx))
 (qTz69 J2 x x_4 v c v.x a (nN (qTz165 x_4 a c []) zx))))
 (qTz69 J2 x x_4 v c v.x a (nN (qTz165 x_4 a c []) zx)))
 (z9 XTz (J2 3 x.s) fun (x_6:XTz)=>zj (x.s == O 2)
 (qTz96 I x_6 x (nN (zc6 v x_6 c v.x a (qTz64 x_6 c a [])) zx))
 (qTz96 I x_6 x (nN (zc6 v x_6 c v.x a (qTz64 x_6 c a [])) zx))))))
abbrev qTzs3(v:Ev)(x_2:XTz)(c:Cf)(a:Int)(x:XTz)(ln:Nat)(g:Nat->Int)(J2:Nat->Int->XTz->Prop)(I:Nat×XTz->Prop):V:=
  nN (zc6 v x_2 c v.x a [qE x_2.lv]) (qTz71 fun x_3=>zj x_3
 (zj (decide (x.s<(↑ln:Int)))
 (zej x ln (zj ((g (0+x.s.toNat)).tmod (O 3) == O 1)
 (zcv x ln g v x_2 c v.x fun x_4=>U (J2 2 x.s { x_2 with s:=x.s,m:=x_4,x:=O 0,z:=O 0,t:=O 0 }) (nN (zcs v x_4 c x_2 v.x [qE a]) (qTz175 x_2 a zx)))
 (qTz68 J2 x x_2 v c v.x a (qTz175 x_2 a zx))))
 (qTz68 J2 x x_2 v c v.x a (qTz175 x_2 a zx)))
 (z9 XTz (J2 2 x.s) fun (x_4:XTz)=>nN (zc6 v x_4 c v.x a [qE x_4.lv]) (qTz71 fun x_5=>zj x_5
 (zj (decide (x.s<(↑ln:Int)))
 (zcp x ln (zj ((g (0+x.s.toNat)).tmod (O 13) == O 5)
 (qTz208 J2 x x_4 v c v.x (nN [qE a] (qTz175 x_4 a zx)))
 (qTz68 J2 x x_4 v c v.x a (qTz175 x_4 a zx))))
 (qTz68 J2 x x_4 v c v.x a (qTz175 x_4 a zx)))
 (z9 XTz (J2 2 x.s) fun (x_6:XTz)=>zj (x.s == O 2)
 (qTz95 I x_6 x (nN (zc6 v x_6 c v.x a []) (qTz174 x_6 zx)))
 (qTz95 I x_6 x (nN (zc6 v x_6 c v.x a []) (qTz174 x_6 zx)))))))
abbrev qTzs4(v:Ev)(x_2:XTz)(c:Cf)(a:Int)(x:XTz)(ln:Nat)(g:Nat->Int)(J2:Nat->Int->XTz->Prop)(I:Nat×XTz->Prop):V:=
  nN (zbp v x_2 c v.x a (qTz184 x_2 a [])) (qTz71 fun x_3=>zj x_3
 (zj (decide (x.s<(↑ln:Int)))
 (zej x ln (zj ((g (0+x.s.toNat)).tmod (O 3) == O 1)
 (zcv x ln g v x_2 c v.x fun x_4=>qTz215 J2 x x_4 x_2 v c v.x (nN [qE a] (zha x_2 a zx)))
 (qTz52 J2 x x_2 v c v.x (nN [qE a] (zha x_2 a zx)))))
 (qTz52 J2 x x_2 v c v.x (nN [qE a] (zha x_2 a zx))))
 (z9 XTz (J2 15 x.s) fun (x_4:XTz)=>nN (zbp v x_4 c v.x a (qTz184 x_4 a [])) (qTz71 fun x_5=>zj x_5
 (zj (decide (x.s<(↑ln:Int)))
 (zcp x ln (zj ((g (0+x.s.toNat)).tmod (O 13) == O 5)
 (qTz169 J2 x x_4 v c v.x (nN [qE a] (zha x_4 a zx)))
 (qTz52 J2 x x_4 v c v.x (nN [qE a] (zha x_4 a zx)))))
 (qTz52 J2 x x_4 v c v.x (nN [qE a] (zha x_4 a zx))))
 (z9 XTz (J2 15 x.s) fun (x_6:XTz)=>zj (x.s == O 2)
 (qTz75 I x_6 x (nN (zbp v x_6 c v.x a []) (zha x_6 a zx)))
 (qTz75 I x_6 x (nN (zbp v x_6 c v.x a []) (zha x_6 a zx)))))))
theorem vTz0_eq(c:Cf)(v:Ev)(a:Int)(cf ln lc:Nat)(g:Nat->Int)(I:Nat×XTz->Prop)(J1 J2:Nat->Int->XTz->Prop):V.pr (.b (.b (.b (.b (.t (.f .z)) (.f (.f .z))) .z) .z) .z) (vTzO 0 c v a cf ln lc g I J1 J2)=
  zcu I v.m v cf c v.x (nN [qE a,qE cf,qE cf] (zct a I fun b=>zj b
 (z9 XTz (fun (x:XTz)=>I (0,x)) fun (x:XTz)=>zj (decide (x.s<O 200))
 (nN (zbp v x c v.x a (zep x a [qE a])) (qTz71 fun x_1=>zj x_1
 (zcr v x (nN (qTz242 c []) (qTz147 a c (nN (qE (bmN c.W c.C c.H a)::zd4 v x []) (qTz53 x v c a fun x_2=>zj (x.m.val v.n (bmN c.W c.C c.H a) == O 0)
 (nN [(13,.lt2 0 1 0 1),(9,.lt 0 1),(39,.lt2 0 1 0 1)] (qTz241 x fun x_3=>qTz108 (zhb (nN [(6,.lt2 0 1 0 1)] (qTz182 (qTz202 (nN (qTz20 c [qE a]) (qTz131 c (nN [qE (bmN c.W c.C c.H a)] (zf5 c v x v.x (qTz53 x v c a fun x_4=>zho (zhb (U ((x.m.val v.n (bmN c.W c.C c.H a) == O 0)=true) (qTz103 x_3 (qTz224 (zgl (zgl (zgl (nN [(6,.lt2 0 1 0 1)] (qTz142 x_3 (zc3 v.x v x x_2 x_4 (nN [(6,.lt2 0 1 0 1)] (qTz137 v.x v x x_2 x_4 (qTz135 v x x_4 x_2 v.x (qTz118 v.x v x_2 x (U True zx))))))))))))))))))))))))))
 (qTz86 x v c a (nN (qTz242 c (qTz177 a x v c [])) (U (okYn c.W c.L c.C c.T c.D c.H/\lQ c=lQn c.W c.C c.H) (nN [(11,.lt2 0 1 0 1),(9,.lt 0 1),(39,.lt2 0 1 0 1)] (qTz241 x fun x_3=>qTz108 (zhb (nN [(6,.lt2 0 1 0 1)] (qTz182 (qTz202 (nN (qTz20 c [qE a]) (qTz131 c (nN [qE (bmN c.W c.C c.H a)] (zf5 c v x v.x (qTz53 x v c a fun x_4=>zho (zhb (U ((x.m.val v.n (bmN c.W c.C c.H a) == O 0)=false) (qTz238 (qTz86 x v c a (zhb (qTz46 (zc3 v.x v x x_2 x_4 (U ((1<=1/\1<1+1)/\J1 1 x.s (XTz.mk x.s x_2 x.now x.n (hiB (x.m.val v.n (bmN c.W c.C c.H a))) (x.m.val v.n (bmN c.W c.C c.H a)) (O 0) (O 0) (O 0) x_3 x.l x.na x.nb)) (zby v x_2 c x_4 x v.x (nN [qE a,qE x_3,qE x_3] (U (2<=1+1) (nN (qE a::qTz177 a x v c (qE x.n::qE (x.m.val v.n (bmN c.W c.C c.H a))::qTz177 a x v c [])) (qTz156 c a x v (qTz157 c a x v zx)))))))))))))))))))))))))))))))))
 (U (∀(x_2:Nat×XTz),okTz 0 x_2.fst/\J1 (tzP 0 x_2.fst) x.s x_2.snd->1<=x_2.fst/\x_2.fst<2) (z9 Bool (fun (x:Bool)=>True) fun (b:Bool)=>zj b
 (z9 XTz (fun (x_2:XTz)=>(1<=1/\1<1+1)/\J1 1 x.s x_2) fun (x_2:XTz)=>qTzs1 v x_2 c a x ln g J2 I)
 zx))))
 (U True zx))
 zx)):=by kernel_rfl
theorem vTz1_eq(c:Cf)(v:Ev)(a:Int)(cf ln lc:Nat)(g:Nat->Int)(I:Nat×XTz->Prop)(J1 J2:Nat->Int->XTz->Prop):V.pr (.b (.b (.b (.f .z) .z) .z) .z) (vTzO 1 c v a cf ln lc g I J1 J2)=
  zcu I v.m v cf c v.x (nN [qE a,qE cf,qE cf] (zct a I fun b=>zj b
 (z9 XTz (fun (x:XTz)=>I (1,x)) fun (x:XTz)=>zj (decide (x.s<O 200))
 (nN (zc6 v x c v.x a []) (qTz160 x c a fun x_1=>zj x_1
 (zcr v x (nN ((6,.lt2 0 1 0 1)::qE ((quX c a x.lv).b)::zd4 v x []) (qTz115 x v c a fun x_2=>nN (qTz200 ((6,.lt 1 2)::(13,.lt2 0 1 0 1)::(6,.lt2 0 1 1 2)::qTz20 c [qE a,qE x.lv])) (qTz131 c (nN [(39,.lt2 0 1 0 1)] (U (2<=2/\x.cf=x.cf) (qTz180 fun x_3=>nN [(8,.lt2 0 1 0 1)] (qTz181 (U (2<2+1) (nN [(6,.lt2 0 1 0 1)] (qTz181 (zga (zga (zga (zga (zga (U (2<2+1) (nN [qE ((quN c.W c.L c.C c.D c.H a x.lv).b)] (zf5 c v x v.x (nN [qX (x.m.acc v.n (O 1) (quN c.W c.L c.C c.D c.H a x.lv).b (x.m.val v.n (quN c.W c.L c.C c.D c.H a x.lv).b))] (z9 Mm (fun (m':Mm)=>m'=x.m.acc v.n (O 1) (quN c.W c.L c.C c.D c.H a x.lv).b (x.m.val v.n (quN c.W c.L c.C c.D c.H a x.lv).b)) fun (x_4:Mm)=>zga (zga (zga (zc3 v.x v x x_2 x_4 (U ((1<=1/\1<1+1)/\J1 7 x.s { x with m:=x_2,x:=x.m.val v.n (quN c.W c.L c.C c.D c.H a x.lv).b,z:=O 0,t:=O 0,cf:=x_3 }) (zby v x_2 c x_4 x v.x (nN [qE a,qE x_3,qE x_3] (U (3<=2+1) (qTz105 c a x (qTz106 c a x (nN (zdr a x (qE (x.m.val v.n (quN c.W c.L c.C c.D c.H a x.lv).b)::(1,.eqI 0 0)::qE a::zf0 x c a [])) (U (x.m.val v.n (quX c a x.lv).b=x.m.val v.n (quN c.W c.L c.C c.D c.H a x.lv).b) (nN [(1,.eqI 0 0)] zx)))))))))))))))))))))))))))))))))
 (U (∀(x_2:Nat×XTz),okTz 1 x_2.fst/\J1 (tzP 1 x_2.fst) x.s x_2.snd->1<=x_2.fst/\x_2.fst<2) (z9 Bool (fun (x:Bool)=>True) fun (b:Bool)=>zj b
 (z9 XTz (fun (x_2:XTz)=>(1<=1/\1<1+1)/\J1 7 x.s x_2) fun (x_2:XTz)=>zc5 v x_2 c v.x a fun x_3=>zj x_3
 (zj (decide (x.s<(↑ln:Int)))
 (zej x ln (zj ((g (0+x.s.toNat)).tmod (O 3) == O 1)
 (zcv x ln g v x_2 c v.x fun x_4=>U (J2 7 x.s { x_2 with s:=x.s,m:=x_4,t:=O 0 }) (nN (zcs v x_4 c x_2 v.x (qE a::zef x_2 c a [])) zx))
 (qTz192 J2 x x_2 v c v.x a zx)))
 (qTz192 J2 x x_2 v c v.x a zx))
 (z9 XTz (J2 7 x.s) fun (x_4:XTz)=>zc5 v x_4 c v.x a fun x_5=>zj x_5
 (zj (decide (x.s<(↑ln:Int)))
 (zcp x ln (zj ((g (0+x.s.toNat)).tmod (O 13) == O 5)
 (U (J2 7 x.s { x_4 with s:=x.s,now:=i64.wrap (x_4.now+O 1),t:=O 0 }) (nN (zco v x_4 c v.x (qE a::zef x_4 c a [])) zx))
 (qTz192 J2 x x_4 v c v.x a zx)))
 (qTz192 J2 x x_4 v c v.x a zx))
 (z9 XTz (J2 7 x.s) fun (x_6:XTz)=>zj (x.s == O 2)
 (qTz232 I x_6 x (nN (zfg v x_6 c v.x a []) zx))
 (qTz232 I x_6 x (nN (zfg v x_6 c v.x a []) zx)))))
 zx))))
 (U True zx))
 zx)):=by kernel_rfl
theorem vTz2_eq(c:Cf)(v:Ev)(a:Int)(cf ln lc:Nat)(g:Nat->Int)(I:Nat×XTz->Prop)(J1 J2:Nat->Int->XTz->Prop):V.pr (.b (.b (.b (.b (.t (.f .z)) (.f (.f .z))) .z) .z) .z) (vTzO 2 c v a cf ln lc g I J1 J2)=
  zcu I v.m v cf c v.x (nN [qE a,qE cf,qE cf] (zct a I fun b=>zj b
 (z9 XTz (fun (x:XTz)=>I (2,x)) fun (x:XTz)=>zj (decide (x.s<O 200))
 (nN (zc6 v x c v.x a [qE x.lv]) (qTz71 fun x_1=>zj x_1
 (zcr v x (nN (qTz242 c []) (qTz147 a c (nN (qE (bmN c.W c.C c.H a)::zd4 v x []) (qTz53 x v c a fun x_2=>zj (x.m.val v.n (bmN c.W c.C c.H a) == O 0)
 (nN ((12,.lt2 0 1 0 1)::(1,.lt2 0 1 1 2)::(6,.lt 1 2)::qTz200 ((3,.lt 1 2)::qTz239 (qTz20 c [qE a]))) (qTz131 c (nN [qE (bmN c.W c.C c.H a)] (zf5 c v x v.x (qTz53 x v c a fun x_3=>nN [(2,.lt2 0 1 1 2),(4,.lt 1 2)] (U ((x.m.val v.n (bmN c.W c.C c.H a) == O 0)=true) (qTz139 x (nN [(8,.lt2 0 1 0 1),(1,.lt2 0 1 0 2),(4,.lt2 0 1 0 1),(6,.lt 0 2),(6,.lt2 0 1 0 1)] (U (O 0<=O 0/\O 0<=O 0/\O 0<=(↑x.cf:Int)) (nN [(12,.lt2 0 1 0 1)] (zc3 v.x v x x_2 x_3 (nN [(6,.lt2 0 1 0 1)] (qTz137 v.x v x x_2 x_3 (qTz135 v x x_3 x_2 v.x (qTz118 v.x v x_2 x (U True zx))))))))))))))))
 (qTz86 x v c a (nN (qTz242 c (qTz177 a x v c [])) (qTz166 c (nN ((1,.lt2 0 1 1 2)::(6,.lt 1 2)::qTz200 ((3,.lt 1 2)::qTz239 (qTz20 c [qE a]))) (qTz131 c (nN [qE (bmN c.W c.C c.H a)] (zf5 c v x v.x (qTz53 x v c a fun x_3=>nN [(2,.lt2 0 1 1 2),(4,.lt 1 2)] (U ((x.m.val v.n (bmN c.W c.C c.H a) == O 0)=false) (nN [(3,.lt 1 2)] (qTz86 x v c a (nN [(6,.lt 1 2)] (zc3 v.x v x x_2 x_3 (U ((1<=1/\1<1+1)/\J1 1 x.s (XTz.mk x.s x_2 x.now x.n (hiB (x.m.val v.n (bmN c.W c.C c.H a))) (x.m.val v.n (bmN c.W c.C c.H a)) (O 0) (O 0) (O 0) x.cf x.l x.na x.nb)) (zby v x_2 c x_3 x v.x (nN (qE a::qTz50 x (qE a::qTz177 a x v c (qE x.n::qE (x.m.val v.n (bmN c.W c.C c.H a))::qTz177 a x v c []))) (qTz156 c a x v (qTz157 c a x v zx)))))))))))))))))))))))
 (U (∀(x_2:Nat×XTz),okTz 2 x_2.fst/\J1 (tzP 2 x_2.fst) x.s x_2.snd->1<=x_2.fst/\x_2.fst<2) (z9 Bool (fun (x:Bool)=>True) fun (b:Bool)=>zj b
 (z9 XTz (fun (x_2:XTz)=>(1<=1/\1<1+1)/\J1 1 x.s x_2) fun (x_2:XTz)=>qTzs1 v x_2 c a x ln g J2 I)
 zx))))
 (U True zx))
 zx)):=by kernel_rfl
theorem vTz3_eq(c:Cf)(v:Ev)(a:Int)(cf ln lc:Nat)(g:Nat->Int)(I:Nat×XTz->Prop)(J1 J2:Nat->Int->XTz->Prop):V.pr (.b (.b (.b (.f .z) .z) .z) .z) (vTzO 3 c v a cf ln lc g I J1 J2)=
  zcu I v.m v cf c v.x (nN [qE a,qE cf,qE cf] (zct a I fun b=>zj b
 (z9 XTz (fun (x:XTz)=>I (3,x)) fun (x:XTz)=>zj (decide (x.s<O 200))
 (nN (zc6 v x c v.x a []) (qTz161 x c a fun x_1=>zj x_1
 (zcr v x (qTz225 x (nN [(6,.lt2 0 1 0 1)] (qTz140 c a x (nN (zd4 v x []) (qTz90 x v c a fun x_2=>nN (qTz200 ((6,.lt 1 2)::qTz239 (qTz20 c [qE a]))) (qTz131 c (nN ((3,.lt2 0 1 1 2)::(13,.lt2 0 1 0 1)::(6,.lt2 0 1 1 2)::qTz20 c [qE a,qE x.lv]) (qTz131 c (nN [(39,.lt2 0 1 0 1)] (U (2<=2/\x.cf=x.cf) (qTz180 fun x_3=>nN [(8,.lt2 0 1 0 1)] (qTz181 (U (2<2+1) (nN [(6,.lt2 0 1 0 1)] (qTz181 (zga (zga (qTz171 (qTz171 (qTz171 (qTz225 x (qTz140 c a x (nN [(1,.eqI 0 0)] (zeb c v x v.x (qTz90 x v c a fun x_4=>zga (zga (zga (zc3 v.x v x x_2 x_4 (U ((1<=1/\1<1+1)/\J1 4 x.s { x with m:=x_2,x:=O 0,z:=O 0,t:=O 0,cf:=x_3 }) (zby v x_2 c x_4 x v.x (nN [qE a,qE x_3,qE x_3] (U (3<=2+1) (qTz105 c a x (qTz106 c a x (nN (qE a::qE a::qTz58 c a x (qTz37 x ((2,.eqI 0 0)::qE a::qTz64 x c a [(1,.eqI 0 0)]))) zx))))))))))))))))))))))))))))))))))))
 (U (∀(x_2:Nat×XTz),okTz 3 x_2.fst/\J1 (tzP 3 x_2.fst) x.s x_2.snd->1<=x_2.fst/\x_2.fst<2) (z9 Bool (fun (x:Bool)=>True) fun (b:Bool)=>zj b
 (z9 XTz (fun (x_2:XTz)=>(1<=1/\1<1+1)/\J1 4 x.s x_2) fun (x_2:XTz)=>nN (zfv v x_2 c v.x a []) (qTz99 x_2 fun x_3=>zj x_3
 (zj (decide (x.s<(↑ln:Int)))
 (zej x ln (zj ((g (0+x.s.toNat)).tmod (O 3) == O 1)
 (zcv x ln g v x_2 c v.x fun x_4=>U (J2 4 x.s { x_2 with s:=x.s,m:=x_4,t:=O 0 }) (nN (zcs v x_4 c x_2 v.x (qE a::zhn x_2 c a (qE a::qE a::qTz141 c a x_2 []))) zx))
 (qTz193 J2 x x_2 v c v.x a zx)))
 (qTz193 J2 x x_2 v c v.x a zx))
 (z9 XTz (J2 4 x.s) fun (x_4:XTz)=>nN (zfv v x_4 c v.x a []) (qTz99 x_4 fun x_5=>zj x_5
 (zj (decide (x.s<(↑ln:Int)))
 (zcp x ln (zj ((g (0+x.s.toNat)).tmod (O 13) == O 5)
 (U (J2 4 x.s { x_4 with s:=x.s,now:=i64.wrap (x_4.now+O 1),t:=O 0 }) (nN (zco v x_4 c v.x (qE a::zhn x_4 c a (qE a::qE a::qTz141 c a x_4 []))) zx))
 (qTz193 J2 x x_4 v c v.x a zx)))
 (qTz193 J2 x x_4 v c v.x a zx))
 (z9 XTz (J2 4 x.s) fun (x_6:XTz)=>zj (x.s == O 2)
 (qTz233 I x_6 x (nN (zf7 v x_6 c v.x a []) zx))
 (qTz233 I x_6 x (nN (zf7 v x_6 c v.x a []) zx)))))))
 zx))))
 (U True zx))
 zx)):=by kernel_rfl
theorem vTz4_eq(c:Cf)(v:Ev)(a:Int)(cf ln lc:Nat)(g:Nat->Int)(I:Nat×XTz->Prop)(J1 J2:Nat->Int->XTz->Prop):V.pr (.b (.b (.b (.f .z) .z) .z) .z) (vTzO 4 c v a cf ln lc g I J1 J2)=
  zcu I v.m v cf c v.x (nN [qE a,qE cf,qE cf] (zct a I fun b=>zj b
 (z9 XTz (fun (x:XTz)=>I (4,x)) fun (x:XTz)=>zj (decide (x.s<O 200))
 (nN (zfv v x c v.x a []) (qTz99 x fun x_1=>zj x_1
 (zcr v x (qTz225 x (nN ((7,.lt2 0 1 0 1)::qE ((quX c a x.lv).b)::zd4 v x []) (qTz115 x v c a fun x_2=>nN ((8,.lt2 0 1 0 1)::qTz170 [(10,.lt 2 3),qE ((quX c a x.lv).b)]) (zf5 c v x v.x (qTz115 x v c a fun x_3=>nN [(9,.lt 2 3)] (zc3 v.x v x x_2 x_3 (U ((1<=1/\1<1+1)/\J1 5 x.s { x with m:=x_2,x:=x.m.val v.n (quX c a x.lv).b,t:=O 0 }) (zby v x_2 c x_3 x v.x (nN (qE a::zhn x c a (qE a::qE a::qTz58 c a x (qTz37 x (qE (x.m.val v.n (quX c a x.lv).b)::qE x.z::qE a::qTz64 x c a [qE (x.m.val v.n (quX c a x.lv).b)])))) zx))))))))))
 (U (∀(x_2:Nat×XTz),okTz 4 x_2.fst/\J1 (tzP 4 x_2.fst) x.s x_2.snd->1<=x_2.fst/\x_2.fst<2) (z9 Bool (fun (x:Bool)=>True) fun (b:Bool)=>zj b
 (z9 XTz (fun (x_2:XTz)=>(1<=1/\1<1+1)/\J1 5 x.s x_2) fun (x_2:XTz)=>nN (zfv v x_2 c v.x a []) (qTz99 x_2 fun x_3=>zj x_3
 (zj (decide (x.s<(↑ln:Int)))
 (zej x ln (zj ((g (0+x.s.toNat)).tmod (O 3) == O 1)
 (zcv x ln g v x_2 c v.x fun x_4=>U (J2 5 x.s { x_2 with s:=x.s,m:=x_4,t:=O 0 }) (nN (zcs v x_4 c x_2 v.x (qE a::zhn x_2 c a (qE a::qE a::qTz141 c a x_2 []))) zx))
 (qTz194 J2 x x_2 v c v.x a zx)))
 (qTz194 J2 x x_2 v c v.x a zx))
 (z9 XTz (J2 5 x.s) fun (x_4:XTz)=>nN (zfv v x_4 c v.x a []) (qTz99 x_4 fun x_5=>zj x_5
 (zj (decide (x.s<(↑ln:Int)))
 (zcp x ln (zj ((g (0+x.s.toNat)).tmod (O 13) == O 5)
 (U (J2 5 x.s { x_4 with s:=x.s,now:=i64.wrap (x_4.now+O 1),t:=O 0 }) (nN (zco v x_4 c v.x (qE a::zhn x_4 c a (qE a::qE a::qTz141 c a x_4 []))) zx))
 (qTz194 J2 x x_4 v c v.x a zx)))
 (qTz194 J2 x x_4 v c v.x a zx))
 (z9 XTz (J2 5 x.s) fun (x_6:XTz)=>zj (x.s == O 2)
 (qTz234 I x_6 x (nN (zf7 v x_6 c v.x a []) zx))
 (qTz234 I x_6 x (nN (zf7 v x_6 c v.x a []) zx)))))))
 zx))))
 (U True zx))
 zx)):=by kernel_rfl
theorem vTz5_eq(c:Cf)(v:Ev)(a:Int)(cf ln lc:Nat)(g:Nat->Int)(I:Nat×XTz->Prop)(J1 J2:Nat->Int->XTz->Prop):V.pr (.b (.b (.b (.b (.t (.f .z)) (.f (.f .z))) .z) .z) .z) (vTzO 5 c v a cf ln lc g I J1 J2)=
  zcu I v.m v cf c v.x (nN [qE a,qE cf,qE cf] (zct a I fun b=>zj b
 (z9 XTz (fun (x:XTz)=>I (5,x)) fun (x:XTz)=>zj (decide (x.s<O 200))
 (nN (zfv v x c v.x a []) (qTz99 x fun x_1=>zj x_1
 (zcr v x (qTz225 x (nN ((7,.lt2 0 1 0 1)::qE ((quX c a x.lv).t)::zd4 v x []) (qTz41 x v c a fun x_2=>zj (decide (i64.wrap (u64.wrap (x.x-x.m.val v.n (quX c a x.lv).t))<=O 0))
 (nN ((12,.lt2 0 1 0 1)::qTz170 [(10,.lt 2 3)]) (qTz217 c a x v v.x (qTz41 x v c a fun x_3=>nN (qTz158 []) (qTz218 x v c a (nN (qTz183 [(9,.lt 1 3)]) (zc3 v.x v x x_2 x_3 (U ((1<=2/\2<1+2)/\J1 2 x.s { x with m:=x_2,x:=O 0,z:=O 0,t:=O 0 }) (zby v x_2 c x_3 x v.x (nN (qE a::qTz31 x ((1,.le 2 3)::zdr a x [qE a])) (qTz174 x zx))))))))))
 (nN (zfq [(10,.lt 2 3)]) (qTz217 c a x v v.x (qTz41 x v c a fun x_3=>qTz219 x v c a (nN [(6,.lt 2 3)] (zc3 v.x v x x_2 x_3 (U ((1<=1/\1<1+2)/\J1 6 x.s { x with m:=x_2,z:=x.m.val v.n (quX c a x.lv).t,t:=O 0 }) (zby v x_2 c x_3 x v.x (nN (qE a::zhn x c a (qE a::qE a::qTz58 c a x (qTz37 x (ze9 x v c a (qE a::qTz64 x c a [qE x.x]))))) zx))))))))))))
 (U (∀(x_2:Nat×XTz),okTz 5 x_2.fst/\J1 (tzP 5 x_2.fst) x.s x_2.snd->1<=x_2.fst/\x_2.fst<3) (z9 Bool (fun (x:Bool)=>True) fun (b:Bool)=>zj b
 (z9 XTz (fun (x_2:XTz)=>(1<=1/\1<1+2)/\J1 6 x.s x_2) fun (x_2:XTz)=>nN (zfv v x_2 c v.x a []) (qTz99 x_2 fun x_3=>zj x_3
 (zj (decide (x.s<(↑ln:Int)))
 (zej x ln (zj ((g (0+x.s.toNat)).tmod (O 3) == O 1)
 (zcv x ln g v x_2 c v.x fun x_4=>U (J2 6 x.s { x_2 with s:=x.s,m:=x_4,t:=O 0 }) (nN (zcs v x_4 c x_2 v.x (qE a::zhn x_2 c a (qE a::qE a::qTz141 c a x_2 []))) zx))
 (qTz195 J2 x x_2 v c v.x a zx)))
 (qTz195 J2 x x_2 v c v.x a zx))
 (z9 XTz (J2 6 x.s) fun (x_4:XTz)=>nN (zfv v x_4 c v.x a []) (qTz99 x_4 fun x_5=>zj x_5
 (zj (decide (x.s<(↑ln:Int)))
 (zcp x ln (zj ((g (0+x.s.toNat)).tmod (O 13) == O 5)
 (U (J2 6 x.s { x_4 with s:=x.s,now:=i64.wrap (x_4.now+O 1),t:=O 0 }) (nN (zco v x_4 c v.x (qE a::zhn x_4 c a (qE a::qE a::qTz141 c a x_4 []))) zx))
 (qTz195 J2 x x_4 v c v.x a zx)))
 (qTz195 J2 x x_4 v c v.x a zx))
 (z9 XTz (J2 6 x.s) fun (x_6:XTz)=>zj (x.s == O 2)
 (qTz235 I x_6 x (nN (zf7 v x_6 c v.x a []) zx))
 (qTz235 I x_6 x (nN (zf7 v x_6 c v.x a []) zx)))))))
 (z9 Bool (fun (x:Bool)=>True) fun (b:Bool)=>zj b
 (z9 XTz (fun (x_2:XTz)=>(1<=2/\2<1+2)/\J1 2 x.s x_2) fun (x_2:XTz)=>qTzs3 v x_2 c a x ln g J2 I)
 zx)))))
 (U True zx))
 zx)):=by kernel_rfl
theorem vTz6_eq(c:Cf)(v:Ev)(a:Int)(cf ln lc:Nat)(g:Nat->Int)(I:Nat×XTz->Prop)(J1 J2:Nat->Int->XTz->Prop):V.pr (.b (.b (.b (.f .z) .z) .z) .z) (vTzO 6 c v a cf ln lc g I J1 J2)=
  zcu I v.m v cf c v.x (nN [qE a,qE cf,qE cf] (zct a I fun b=>zj b
 (z9 XTz (fun (x:XTz)=>I (6,x)) fun (x:XTz)=>zj (decide (x.s<O 200))
 (nN (zfv v x c v.x a []) (qTz99 x fun x_1=>zj x_1
 (zcr v x (qTz225 x (nN ((6,.lt2 0 1 0 1)::qE (bmN c.W c.C c.H a)::qE (bitM x.lv)::zd4 v x []) (qTz154 x v c a fun x_2=>nN ((12,.lt2 0 1 0 1)::qTz170 [(6,.lt 2 3),(6,.lt2 0 1 2 3)]) (qTz225 x (nN [qE (bmN c.W c.C c.H a),qE (bitM x.lv),(1,.eqI 0 0)] (zeb c v x v.x (qTz154 x v c a fun x_3=>qTz72 x (nN (qTz183 [(9,.lt 1 3)]) (zc3 v.x v x x_2 x_3 (U ((1<=1/\1<1+1)/\J1 2 x.s { x with m:=x_2,x:=O 0,z:=O 0,t:=O 0 }) (zby v x_2 c x_3 x v.x (nN (qE a::qTz31 x ((1,.le 2 3)::zdr a x [qE a])) (qTz174 x zx))))))))))))))
 (U (∀(x_2:Nat×XTz),okTz 6 x_2.fst/\J1 (tzP 6 x_2.fst) x.s x_2.snd->1<=x_2.fst/\x_2.fst<2) (z9 Bool (fun (x:Bool)=>True) fun (b:Bool)=>zj b
 (z9 XTz (fun (x_2:XTz)=>(1<=1/\1<1+1)/\J1 2 x.s x_2) fun (x_2:XTz)=>qTzs3 v x_2 c a x ln g J2 I)
 zx))))
 (U True zx))
 zx)):=by kernel_rfl
theorem vTz7_eq(c:Cf)(v:Ev)(a:Int)(cf ln lc:Nat)(g:Nat->Int)(I:Nat×XTz->Prop)(J1 J2:Nat->Int->XTz->Prop):V.pr (.b (.b (.b (.b (.t (.f .z)) (.f (.f .z))) .z) .z) .z) (vTzO 7 c v a cf ln lc g I J1 J2)=
  zcu I v.m v cf c v.x (nN [qE a,qE cf,qE cf] (zct a I fun b=>zj b
 (z9 XTz (fun (x:XTz)=>I (7,x)) fun (x:XTz)=>zj (decide (x.s<O 200))
 (zc5 v x c v.x a fun x_1=>zj x_1
 (zcr v x (nN ((6,.lt2 0 1 0 1)::qE ((quX c a x.lv).t)::zd4 v x []) (qTz41 x v c a fun x_2=>nN [(6,.lt2 0 1 0 1)] (zj (decide (i64.wrap (u64.wrap (x.x-x.m.val v.n (quX c a x.lv).t))<=O 0))
 (nN (qTz243 c []) (qTz147 a c (nN (qTz243 c [qE a,qE x.lv]) (qTz166 c (nN (qTz170 [(13,.lt 2 3)]) (qTz217 c a x v v.x (qTz41 x v c a fun x_3=>nN (qTz158 []) (qTz218 x v c a (nN (qTz183 [(9,.lt 1 3)]) (zc3 v.x v x x_2 x_3 (U ((1<=2/\2<1+2)/\J1 3 x.s { x with m:=x_2,x:=O 0,z:=O 0,t:=O 0 }) (zby v x_2 c x_3 x v.x (nN (qE a::qTz31 x ((1,.le 2 3)::zdr a x (qE a::qE x.lv::qTz58 c a x []))) (qTz105 c a x (qTz106 c a x zx)))))))))))))))
 (nN (zfq [(13,.lt 2 3)]) (qTz217 c a x v v.x (qTz41 x v c a fun x_3=>qTz219 x v c a (zeu v.x v x x_2 x_3 (U ((1<=1/\1<1+2)/\J1 8 x.s { x with m:=x_2,z:=x.m.val v.n (quX c a x.lv).t,t:=O 0 }) (zby v x_2 c x_3 x v.x (nN (qE a::zhn x c a (zdr a x (ze9 x v c a (qE a::zf0 x c a (ze9 x v c a []))))) zx)))))))))))
 (U (∀(x_2:Nat×XTz),okTz 7 x_2.fst/\J1 (tzP 7 x_2.fst) x.s x_2.snd->1<=x_2.fst/\x_2.fst<3) (z9 Bool (fun (x:Bool)=>True) fun (b:Bool)=>zj b
 (z9 XTz (fun (x_2:XTz)=>(1<=1/\1<1+2)/\J1 8 x.s x_2) fun (x_2:XTz)=>zc5 v x_2 c v.x a fun x_3=>zj x_3
 (zj (decide (x.s<(↑ln:Int)))
 (zej x ln (zj ((g (0+x.s.toNat)).tmod (O 3) == O 1)
 (zcv x ln g v x_2 c v.x fun x_4=>U (J2 8 x.s { x_2 with s:=x.s,m:=x_4,t:=O 0 }) (nN (zcs v x_4 c x_2 v.x (qE a::zef x_2 c a [])) zx))
 (qTz196 J2 x x_2 v c v.x a zx)))
 (qTz196 J2 x x_2 v c v.x a zx))
 (z9 XTz (J2 8 x.s) fun (x_4:XTz)=>zc5 v x_4 c v.x a fun x_5=>zj x_5
 (zj (decide (x.s<(↑ln:Int)))
 (zcp x ln (zj ((g (0+x.s.toNat)).tmod (O 13) == O 5)
 (U (J2 8 x.s { x_4 with s:=x.s,now:=i64.wrap (x_4.now+O 1),t:=O 0 }) (nN (zco v x_4 c v.x (qE a::zef x_4 c a [])) zx))
 (qTz196 J2 x x_4 v c v.x a zx)))
 (qTz196 J2 x x_4 v c v.x a zx))
 (z9 XTz (J2 8 x.s) fun (x_6:XTz)=>zj (x.s == O 2)
 (qTz236 I x_6 x (nN (zfg v x_6 c v.x a []) zx))
 (qTz236 I x_6 x (nN (zfg v x_6 c v.x a []) zx)))))
 (z9 Bool (fun (x:Bool)=>True) fun (b:Bool)=>zj b
 (z9 XTz (fun (x_2:XTz)=>(1<=2/\2<1+2)/\J1 3 x.s x_2) fun (x_2:XTz)=>qTzs2 v x_2 c a x ln g J2 I)
 zx))))
 (U True zx))
 zx)):=by kernel_rfl
theorem vTz8_eq(c:Cf)(v:Ev)(a:Int)(cf ln lc:Nat)(g:Nat->Int)(I:Nat×XTz->Prop)(J1 J2:Nat->Int->XTz->Prop):V.pr (.b (.b (.b (.f .z) .z) .z) .z) (vTzO 8 c v a cf ln lc g I J1 J2)=
  zcu I v.m v cf c v.x (nN [qE a,qE cf,qE cf] (zct a I fun b=>zj b
 (z9 XTz (fun (x:XTz)=>I (8,x)) fun (x:XTz)=>zj (decide (x.s<O 200))
 (zc5 v x c v.x a fun x_1=>zj x_1
 (zcr v x (nN ((13,.lt2 0 1 0 1)::qE ((quX c a x.lv).b)::qE (u64.wrap (x.x-O 1))::zd4 v x []) (qTz176 x v c a fun x_2=>nN (zfq [(9,.lt 2 3),(7,.lt2 0 1 2 3),qE ((quX c a x.lv).b),qE (u64.wrap (x.x-O 1)),(1,.eqI 0 0)]) (zeb c v x v.x (qTz176 x v c a fun x_3=>zeu v.x v x x_2 x_3 (U ((1<=1/\1<1+1)/\J1 9 x.s { x with m:=x_2,t:=O 0 }) (zby v x_2 c x_3 x v.x (nN (qE a::zef x c a []) zx))))))))
 (U (∀(x_2:Nat×XTz),okTz 8 x_2.fst/\J1 (tzP 8 x_2.fst) x.s x_2.snd->1<=x_2.fst/\x_2.fst<2) (z9 Bool (fun (x:Bool)=>True) fun (b:Bool)=>zj b
 (z9 XTz (fun (x_2:XTz)=>(1<=1/\1<1+1)/\J1 9 x.s x_2) fun (x_2:XTz)=>zc5 v x_2 c v.x a fun x_3=>zj x_3
 (zj (decide (x.s<(↑ln:Int)))
 (zej x ln (zj ((g (0+x.s.toNat)).tmod (O 3) == O 1)
 (zcv x ln g v x_2 c v.x fun x_4=>U (J2 9 x.s { x_2 with s:=x.s,m:=x_4,t:=O 0 }) (nN (zcs v x_4 c x_2 v.x (qE a::zef x_2 c a [])) zx))
 (qTz197 J2 x x_2 v c v.x a zx)))
 (qTz197 J2 x x_2 v c v.x a zx))
 (z9 XTz (J2 9 x.s) fun (x_4:XTz)=>zc5 v x_4 c v.x a fun x_5=>zj x_5
 (zj (decide (x.s<(↑ln:Int)))
 (zcp x ln (zj ((g (0+x.s.toNat)).tmod (O 13) == O 5)
 (U (J2 9 x.s { x_4 with s:=x.s,now:=i64.wrap (x_4.now+O 1),t:=O 0 }) (nN (zco v x_4 c v.x (qE a::zef x_4 c a [])) zx))
 (qTz197 J2 x x_4 v c v.x a zx)))
 (qTz197 J2 x x_4 v c v.x a zx))
 (z9 XTz (J2 9 x.s) fun (x_6:XTz)=>zj (x.s == O 2)
 (qTz237 I x_6 x (nN (zfg v x_6 c v.x a []) zx))
 (qTz237 I x_6 x (nN (zfg v x_6 c v.x a []) zx)))))
 zx)))
 (U True zx))
 zx)):=by kernel_rfl
theorem vTz9_eq(c:Cf)(v:Ev)(a:Int)(cf ln lc:Nat)(g:Nat->Int)(I:Nat×XTz->Prop)(J1 J2:Nat->Int->XTz->Prop):V.pr (.b (.b (.b (.b (.b (.f .z) (.b (.f .z) (.f .z))) (.b (.t (.f .z)) (.f (.b (.f .z) (.f .z))))) .z) .z) .z) (vTzO 9 c v a cf ln lc g I J1 J2)=
  zcu I v.m v cf c v.x (nN [qE a,qE cf,qE cf] (zct a I fun b=>zj b
 (z9 XTz (fun (x:XTz)=>I (9,x)) fun (x:XTz)=>zj (decide (x.s<O 200))
 (zc5 v x c v.x a fun x_1=>zj x_1
 (zcr v x (nN ((13,.lt2 0 1 0 1)::qE ((quX c a x.lv).t)::zd4 v x []) (qTz41 x v c a fun x_2=>nN [(8,.lt2 0 1 0 1)] (zj (decide (i64.wrap (u64.wrap (u64.wrap (x.x-O 1)-x.m.val v.n (quX c a x.lv).t))>O 0))
 (nN (zfq [(13,.lt 2 3)]) (qTz217 c a x v v.x (qTz41 x v c a fun x_3=>nN (qTz158 []) (zj (i64.wrap (u64.wrap (u64.wrap (x.x-O 1)-x.m.val v.n (quX c a x.lv).t)) == O 0)
 (zeu v.x v x x_2 x_3 (qTz168 J1 x x_2 v c a x_3 v.x (qTz178 v x_3 x_2 x c v.x (nN (qE a::zdu x []) (U (O 6=O (tzP 9 1-5)) (nN (qTz9 c a x (zdr a x (ze9 x v c a (qE a::zf0 x c a (ze9 x v c a []))))) zx))))))
 (zj (decide (i64.wrap (u64.wrap (u64.wrap (x.x-O 1)-x.m.val v.n (quX c a x.lv).t))<O 0))
 (zeu v.x v x x_2 x_3 (qTz168 J1 x x_2 v c a x_3 v.x (qTz178 v x_3 x_2 x c v.x (nN (qE a::zdu x []) (U (O 9=O (tzP 9 1-5)) (nN (qTz9 c a x (zdr a x (ze9 x v c a (qE a::zf0 x c a (ze9 x v c a []))))) zx))))))
 (zeu v.x v x x_2 x_3 (qTz168 J1 x x_2 v c a x_3 v.x (qTz178 v x_3 x_2 x c v.x (nN (qE a::zdu x []) (U (O 5=O (tzP 9 1-5)) (nN (qTz9 c a x (zdr a x (ze9 x v c a (qE a::zf0 x c a (ze9 x v c a []))))) zx)))))))))))
 (zj (i64.wrap (u64.wrap (u64.wrap (x.x-O 1)-x.m.val v.n (quX c a x.lv).t)) == O 0)
 (nN (zfq [(13,.lt 2 3)]) (qTz217 c a x v v.x (qTz41 x v c a fun x_3=>nN (qTz158 []) (U ((i64.wrap (u64.wrap (u64.wrap (x.x-O 1)-x.m.val v.n (quX c a x.lv).t)) == O 0)=true) (zeu v.x v x x_2 x_3 (U ((1<=2/\2<1+3)/\J1 11 x.s { x with m:=x_2,z:=x.m.val v.n (quX c a x.lv).t,t:=O 0 }) (zby v x_2 c x_3 x v.x (nN (qE a::zhn x c a (zdr a x (ze9 x v c a (qE a::zf0 x c a (ze9 x v c a []))))) zx))))))))
 (nN (zfq [(13,.lt 2 3)]) (qTz217 c a x v v.x (qTz41 x v c a fun x_3=>nN (qTz158 []) (U ((i64.wrap (u64.wrap (u64.wrap (x.x-O 1)-x.m.val v.n (quX c a x.lv).t)) == O 0)=false) (zj (decide (i64.wrap (u64.wrap (u64.wrap (x.x-O 1)-x.m.val v.n (quX c a x.lv).t))<O 0))
 (zeu v.x v x x_2 x_3 (U ((1<=3/\3<1+3)/\J1 14 x.s { x with m:=x_2,z:=x.m.val v.n (quX c a x.lv).t,t:=O 0 }) (zby v x_2 c x_3 x v.x (nN (qE a::zdu x []) (U (O 9=O (tzP 9 3-5)) (nN (qTz9 c a x (zdr a x (ze9 x v c a (qE a::zf0 x c a (ze9 x v c a []))))) zx))))))
 (zeu v.x v x x_2 x_3 (U ((1<=3/\3<1+3)/\J1 14 x.s { x with m:=x_2,z:=x.m.val v.n (quX c a x.lv).t,t:=O 0 }) (zby v x_2 c x_3 x v.x (nN (qE a::zdu x []) (U (O 5=O (tzP 9 3-5)) (nN (qTz9 c a x (zdr a x (ze9 x v c a (qE a::zf0 x c a (ze9 x v c a []))))) zx))))))))))))))))
 (U (∀(x_2:Nat×XTz),okTz 9 x_2.fst/\J1 (tzP 9 x_2.fst) x.s x_2.snd->1<=x_2.fst/\x_2.fst<4) (z9 Bool (fun (x:Bool)=>True) fun (b:Bool)=>zj b
 (z9 XTz (fun (x_2:XTz)=>(1<=1/\1<1+3)/\J1 10 x.s x_2) fun (x_2:XTz)=>nN (zbp v x_2 c v.x a (zdu x_2 [])) (U (O (tzP 9 1-5)=O (10-5)) (nN (qTz9 c a x_2 [qE a,qE a]) (ze3 x_2 a c fun x_3=>zj x_3
 (zj (decide (x.s<(↑ln:Int)))
 (zej x ln (zj ((g (0+x.s.toNat)).tmod (O 3) == O 1)
 (zcv x ln g v x_2 c v.x fun x_4=>U (J2 10 x.s { x_2 with s:=x.s,m:=x_4,t:=O 0 }) (nN (zcs v x_4 c x_2 v.x (qE a::zg9 x_2 c a [])) zx))
 (qTz187 J2 x x_2 v c v.x a (nN (zg9 x_2 c a []) zx))))
 (qTz187 J2 x x_2 v c v.x a (nN (zg9 x_2 c a []) zx)))
 (z9 XTz (J2 10 x.s) fun (x_4:XTz)=>nN (zbp v x_4 c v.x a (qTz143 x_4 (qTz9 c a x_4 [qE a,qE a]))) (ze3 x_4 a c fun x_5=>zj x_5
 (zj (decide (x.s<(↑ln:Int)))
 (zcp x ln (zj ((g (0+x.s.toNat)).tmod (O 13) == O 5)
 (U (J2 10 x.s { x_4 with s:=x.s,now:=i64.wrap (x_4.now+O 1),t:=O 0 }) (nN (zco v x_4 c v.x (qE a::zg9 x_4 c a [])) zx))
 (qTz187 J2 x x_4 v c v.x a (nN (zg9 x_4 c a []) zx))))
 (qTz187 J2 x x_4 v c v.x a (nN (zg9 x_4 c a []) zx)))
 (z9 XTz (J2 10 x.s) fun (x_6:XTz)=>zj (x.s == O 2)
 (qTz228 I x_6 x (nN (zbp v x_6 c v.x a (zg9 x_6 c a [])) zx))
 (qTz228 I x_6 x (nN (zbp v x_6 c v.x a (zg9 x_6 c a [])) zx)))))))))
 (z9 Bool (fun (x:Bool)=>True) fun (b:Bool)=>zj b
 (z9 XTz (fun (x_2:XTz)=>(1<=2/\2<1+3)/\J1 11 x.s x_2) fun (x_2:XTz)=>zc5 v x_2 c v.x a fun x_3=>zj x_3
 (zj (decide (x.s<(↑ln:Int)))
 (zej x ln (zj ((g (0+x.s.toNat)).tmod (O 3) == O 1)
 (zcv x ln g v x_2 c v.x fun x_4=>U (J2 11 x.s { x_2 with s:=x.s,m:=x_4,t:=O 0 }) (nN (zcs v x_4 c x_2 v.x (qE a::zef x_2 c a [])) zx))
 (qTz188 J2 x x_2 v c v.x a zx)))
 (qTz188 J2 x x_2 v c v.x a zx))
 (z9 XTz (J2 11 x.s) fun (x_4:XTz)=>zc5 v x_4 c v.x a fun x_5=>zj x_5
 (zj (decide (x.s<(↑ln:Int)))
 (zcp x ln (zj ((g (0+x.s.toNat)).tmod (O 13) == O 5)
 (U (J2 11 x.s { x_4 with s:=x.s,now:=i64.wrap (x_4.now+O 1),t:=O 0 }) (nN (zco v x_4 c v.x (qE a::zef x_4 c a [])) zx))
 (qTz188 J2 x x_4 v c v.x a zx)))
 (qTz188 J2 x x_4 v c v.x a zx))
 (z9 XTz (J2 11 x.s) fun (x_6:XTz)=>zj (x.s == O 2)
 (qTz229 I x_6 x (nN (zfg v x_6 c v.x a []) zx))
 (qTz229 I x_6 x (nN (zfg v x_6 c v.x a []) zx)))))
 (z9 Bool (fun (x:Bool)=>True) fun (b:Bool)=>zj b
 (z9 XTz (fun (x_2:XTz)=>(1<=3/\3<1+3)/\J1 14 x.s x_2) fun (x_2:XTz)=>nN (zbp v x_2 c v.x a (zdu x_2 [])) (U (O (tzP 9 3-5)=O (14-5)) (qTzs0 c a x_2 x ln g v J2 I)))
 zx)))))
 (U True zx))
 zx)):=by kernel_rfl
theorem vTz10_eq(c:Cf)(v:Ev)(a:Int)(cf ln lc:Nat)(g:Nat->Int)(I:Nat×XTz->Prop)(J1 J2:Nat->Int->XTz->Prop):V.pr (.b (.b (.b (.f (.f (.f (.f (.t (.t (.f .z))))))) .z) .z) .z) (vTzO 10 c v a cf ln lc g I J1 J2)=
  zcu I v.m v cf c v.x (nN [qE a,qE cf,qE cf] (zct a I fun b=>zj b
 (z9 XTz (fun (x:XTz)=>I (10,x)) fun (x:XTz)=>zj (decide (x.s<O 200))
 (nN (zbp v x c v.x a (zdu x [])) (U (O (10-5)=O (tzP 10 0-5)) (nN (qTz9 c a x [qE a,qE a]) (ze3 x a c fun x_1=>zj x_1
 (zcr v x (nN ((17,.lt2 0 1 0 1)::qTz191 c a x []) (qTz93 c a x (nN (zd4 v x []) (qTz44 x v c a fun x_2=>nN ((18,.lt2 0 1 0 1)::qTz170 ((9,.lt 2 3)::zfy (zfy (qE true::qE true::(9,.lt2 0 1 2 3)::qTz191 c a x [])))) (qTz93 c a x (zf5 c v x v.x (qTz44 x v c a fun x_3=>qTz72 x (nN (qTz183 [(6,.lt 1 3)]) (qTz139 x (nN [(8,.lt2 0 1 0 1),(1,.lt2 0 1 0 3),(4,.lt2 0 1 0 1),(12,.lt 0 3)] (zc3 v.x v x x_2 x_3 (U ((1<=1/\1<1+1)/\J1 15 x.s (XTz.mk x.s x_2 x.now (O 0) (O 0) (O 0) (O 0) (O 0) (i64.wrap (x.m.val v.n (zd7 (quX c a x.lv).r (quX c a x.lv).c (u64.wrap (x.x-O 1))))) x.cf x.l x.na x.nb)) (zby v x_2 c x_3 x v.x (nN (qE a::qTz31 x ((1,.le 1 3)::qTz116 a x v c (qTz116 a x v c []))) (zfh zx))))))))))))))))
 (U (∀(x_2:Nat×XTz),okTz 10 x_2.fst/\J1 (tzP 10 x_2.fst) x.s x_2.snd->1<=x_2.fst/\x_2.fst<2) (z9 Bool (fun (x:Bool)=>True) fun (b:Bool)=>zj b
 (z9 XTz (fun (x_2:XTz)=>(1<=1/\1<1+1)/\J1 15 x.s x_2) fun (x_2:XTz)=>qTzs4 v x_2 c a x ln g J2 I)
 zx))))))
 (U True zx))
 zx)):=by kernel_rfl
theorem vTz11_eq(c:Cf)(v:Ev)(a:Int)(cf ln lc:Nat)(g:Nat->Int)(I:Nat×XTz->Prop)(J1 J2:Nat->Int->XTz->Prop):V.pr (.b (.b (.b (.b (.t (.f .z)) (.f (.f .z))) .z) .z) .z) (vTzO 11 c v a cf ln lc g I J1 J2)=
  zcu I v.m v cf c v.x (nN [qE a,qE cf,qE cf] (zct a I fun b=>zj b
 (z9 XTz (fun (x:XTz)=>I (11,x)) fun (x:XTz)=>zj (decide (x.s<O 200))
 (zc5 v x c v.x a fun x_1=>zj x_1
 (zcr v x (nN ((16,.lt2 0 1 0 1)::qE ((quX c a x.lv).t)::qTz222 x (zd4 v x [])) (qTz70 x v c a fun x_2=>zj (!(x.m).hit v.n (quX c a x.lv).t x.z)
 (nN (zfq ((9,.lt 2 3)::(10,.lt2 0 1 2 3)::qE ((quX c a x.lv).t)::qTz222 x [])) (zeb c v x v.x (qTz70 x v c a fun x_3=>U ((!(x.m).hit v.n (quX c a x.lv).t x.z)=true) (zeu v.x v x x_2 x_3 (U ((1<=2/\2<1+2)/\J1 14 x.s { x with m:=x_2,t:=O 0 }) (zby v x_2 c x_3 x v.x (nN (qE a::zdu x []) (U (O 9=O (tzP 11 2-5)) (nN (qTz82 c a x []) zx)))))))))
 (nN (zfq ((9,.lt 2 3)::(10,.lt2 0 1 2 3)::qE ((quX c a x.lv).t)::qTz222 x [])) (zeb c v x v.x (qTz70 x v c a fun x_3=>U ((!(x.m).hit v.n (quX c a x.lv).t x.z)=false) (zeu v.x v x x_2 x_3 (U ((1<=1/\1<1+2)/\J1 12 x.s { x with m:=x_2,t:=O 0 }) (zby v x_2 c x_3 x v.x (nN (qE a::zdu x []) (U (O 7=O (tzP 11 1-5)) (nN (qTz82 c a x []) zx))))))))))))
 (U (∀(x_2:Nat×XTz),okTz 11 x_2.fst/\J1 (tzP 11 x_2.fst) x.s x_2.snd->1<=x_2.fst/\x_2.fst<3) (z9 Bool (fun (x:Bool)=>True) fun (b:Bool)=>zj b
 (z9 XTz (fun (x_2:XTz)=>(1<=1/\1<1+2)/\J1 12 x.s x_2) fun (x_2:XTz)=>nN (zbp v x_2 c v.x a (zdu x_2 [])) (U (O (tzP 11 1-5)=O (12-5)) (nN (qTz9 c a x_2 [qE a,qE a]) (ze3 x_2 a c fun x_3=>zj x_3
 (zj (decide (x.s<(↑ln:Int)))
 (zej x ln (zj ((g (0+x.s.toNat)).tmod (O 3) == O 1)
 (zcv x ln g v x_2 c v.x fun x_4=>U (J2 12 x.s { x_2 with s:=x.s,m:=x_4,t:=O 0 }) (nN (zcs v x_4 c x_2 v.x (qE a::zhc x_2 c a [])) zx))
 (qTz189 J2 x x_2 v c v.x a (nN (zhc x_2 c a []) zx))))
 (qTz189 J2 x x_2 v c v.x a (nN (zhc x_2 c a []) zx)))
 (z9 XTz (J2 12 x.s) fun (x_4:XTz)=>nN (zbp v x_4 c v.x a (qTz144 x_4 (qTz9 c a x_4 [qE a,qE a]))) (ze3 x_4 a c fun x_5=>zj x_5
 (zj (decide (x.s<(↑ln:Int)))
 (zcp x ln (zj ((g (0+x.s.toNat)).tmod (O 13) == O 5)
 (U (J2 12 x.s { x_4 with s:=x.s,now:=i64.wrap (x_4.now+O 1),t:=O 0 }) (nN (zco v x_4 c v.x (qE a::zhc x_4 c a [])) zx))
 (qTz189 J2 x x_4 v c v.x a (nN (zhc x_4 c a []) zx))))
 (qTz189 J2 x x_4 v c v.x a (nN (zhc x_4 c a []) zx)))
 (z9 XTz (J2 12 x.s) fun (x_6:XTz)=>zj (x.s == O 2)
 (qTz230 I x_6 x (nN (zbp v x_6 c v.x a (zhc x_6 c a [])) zx))
 (qTz230 I x_6 x (nN (zbp v x_6 c v.x a (zhc x_6 c a [])) zx)))))))))
 (z9 Bool (fun (x:Bool)=>True) fun (b:Bool)=>zj b
 (z9 XTz (fun (x_2:XTz)=>(1<=2/\2<1+2)/\J1 14 x.s x_2) fun (x_2:XTz)=>nN (zbp v x_2 c v.x a (zdu x_2 [])) (U (O (tzP 11 2-5)=O (14-5)) (qTzs0 c a x_2 x ln g v J2 I)))
 zx))))
 (U True zx))
 zx)):=by kernel_rfl
theorem vTz12_eq(c:Cf)(v:Ev)(a:Int)(cf ln lc:Nat)(g:Nat->Int)(I:Nat×XTz->Prop)(J1 J2:Nat->Int->XTz->Prop):V.pr (.b (.b (.b (.f (.f (.f (.f (.f (.f (.f (.t (.f .z))))))))) .z) .z) .z) (vTzO 12 c v a cf ln lc g I J1 J2)=
  zcu I v.m v cf c v.x (nN [qE a,qE cf,qE cf] (zct a I fun b=>zj b
 (z9 XTz (fun (x:XTz)=>I (12,x)) fun (x:XTz)=>zj (decide (x.s<O 200))
 (nN (zbp v x c v.x a (zdu x [])) (U (O (12-5)=O (tzP 12 0-5)) (nN (qTz9 c a x [qE a,qE a]) (ze3 x a c fun x_1=>zj x_1
 (zcr v x (nN ((13,.lt2 0 1 0 1)::qE ((quX c a x.lv).b)::qE x.x::zd4 v x []) (qTz107 x v c a fun x_2=>nN (zfq ((9,.lt 2 3)::zfy (zfy (zfy [qE false,qE true,(7,.lt2 0 1 2 3),qE ((quX c a x.lv).b),qE x.x,(1,.eqI 0 0)])))) (zeb c v x v.x (qTz107 x v c a fun x_3=>zeu v.x v x x_2 x_3 (U ((1<=1/\1<1+1)/\J1 13 x.s { x with m:=x_2,t:=O 0 }) (zby v x_2 c x_3 x v.x (nN (qE a::zdu x []) (U (i64.wrap (O (tzP 12 0-5)+O 1)=O (tzP 12 1-5)) (nN (qTz82 c a x []) zx))))))))))
 (U (∀(x_2:Nat×XTz),okTz 12 x_2.fst/\J1 (tzP 12 x_2.fst) x.s x_2.snd->1<=x_2.fst/\x_2.fst<2) (z9 Bool (fun (x:Bool)=>True) fun (b:Bool)=>zj b
 (z9 XTz (fun (x_2:XTz)=>(1<=1/\1<1+1)/\J1 13 x.s x_2) fun (x_2:XTz)=>zc5 v x_2 c v.x a fun x_3=>zj x_3
 (zj (decide (x.s<(↑ln:Int)))
 (zej x ln (zj ((g (0+x.s.toNat)).tmod (O 3) == O 1)
 (zcv x ln g v x_2 c v.x fun x_4=>U (J2 13 x.s { x_2 with s:=x.s,m:=x_4,t:=O 0 }) (nN (zcs v x_4 c x_2 v.x (qE a::zef x_2 c a [])) zx))
 (qTz190 J2 x x_2 v c v.x a zx)))
 (qTz190 J2 x x_2 v c v.x a zx))
 (z9 XTz (J2 13 x.s) fun (x_4:XTz)=>zc5 v x_4 c v.x a fun x_5=>zj x_5
 (zj (decide (x.s<(↑ln:Int)))
 (zcp x ln (zj ((g (0+x.s.toNat)).tmod (O 13) == O 5)
 (U (J2 13 x.s { x_4 with s:=x.s,now:=i64.wrap (x_4.now+O 1),t:=O 0 }) (nN (zco v x_4 c v.x (qE a::zef x_4 c a [])) zx))
 (qTz190 J2 x x_4 v c v.x a zx)))
 (qTz190 J2 x x_4 v c v.x a zx))
 (z9 XTz (J2 13 x.s) fun (x_6:XTz)=>zj (x.s == O 2)
 (qTz231 I x_6 x (nN (zfg v x_6 c v.x a []) zx))
 (qTz231 I x_6 x (nN (zfg v x_6 c v.x a []) zx)))))
 zx))))))
 (U True zx))
 zx)):=by kernel_rfl
theorem vTz13_eq(c:Cf)(v:Ev)(a:Int)(cf ln lc:Nat)(g:Nat->Int)(I:Nat×XTz->Prop)(J1 J2:Nat->Int->XTz->Prop):V.pr (.b (.b (.b (.f .z) .z) .z) .z) (vTzO 13 c v a cf ln lc g I J1 J2)=
  zcu I v.m v cf c v.x (nN [qE a,qE cf,qE cf] (zct a I fun b=>zj b
 (z9 XTz (fun (x:XTz)=>I (13,x)) fun (x:XTz)=>zj (decide (x.s<O 200))
 (zc5 v x c v.x a fun x_1=>zj x_1
 (zcr v x (nN ((17,.lt2 0 1 0 1)::qTz191 c a x []) (qTz93 c a x (nN (zd4 v x []) (qTz44 x v c a fun x_2=>nN ((18,.lt2 0 1 0 1)::qTz170 ((9,.lt 2 3)::(9,.lt2 0 1 2 3)::qTz191 c a x [])) (qTz93 c a x (zf5 c v x v.x (qTz44 x v c a fun x_3=>qTz72 x (nN (qTz183 [(6,.lt 1 3)]) (qTz139 x (nN [(8,.lt2 0 1 0 1),(1,.lt2 0 1 0 3),(4,.lt2 0 1 0 1),(12,.lt 0 3)] (zc3 v.x v x x_2 x_3 (U ((1<=1/\1<1+1)/\J1 15 x.s (XTz.mk x.s x_2 x.now (O 0) (O 0) (O 0) (O 0) (O 0) (i64.wrap (x.m.val v.n (zd7 (quX c a x.lv).r (quX c a x.lv).c (u64.wrap (x.x-O 1))))) x.cf x.l x.na x.nb)) (zby v x_2 c x_3 x v.x (nN (qE a::qTz31 x ((1,.le 1 3)::qTz116 a x v c (qTz116 a x v c []))) (zfh zx))))))))))))))))
 (U (∀(x_2:Nat×XTz),okTz 13 x_2.fst/\J1 (tzP 13 x_2.fst) x.s x_2.snd->1<=x_2.fst/\x_2.fst<2) (z9 Bool (fun (x:Bool)=>True) fun (b:Bool)=>zj b
 (z9 XTz (fun (x_2:XTz)=>(1<=1/\1<1+1)/\J1 15 x.s x_2) fun (x_2:XTz)=>qTzs4 v x_2 c a x ln g J2 I)
 zx)))
 (U True zx))
 zx)):=by kernel_rfl
theorem vTz14_eq(c:Cf)(v:Ev)(a:Int)(cf ln lc:Nat)(g:Nat->Int)(I:Nat×XTz->Prop)(J1 J2:Nat->Int->XTz->Prop):V.pr (.b (.b (.b (.f (.f (.f (.f (.f (.f (.f (.f (.f .z))))))))) .z) .z) .z) (vTzO 14 c v a cf ln lc g I J1 J2)=
  zcu I v.m v cf c v.x (nN [qE a,qE cf,qE cf] (zct a I fun b=>zj b
 (z9 XTz (fun (x:XTz)=>I (14,x)) fun (x:XTz)=>zj (decide (x.s<O 200))
 (nN (zbp v x c v.x a (zdu x [])) (U (O (14-5)=O (tzP 14 0-5)) (nN (qTz9 c a x [qE a,qE a]) (ze3 x a c fun x_1=>zj x_1
 (zcr v x (nN ((13,.lt2 0 1 0 1)::qE ((quX c a x.lv).b)::qE x.x::zd4 v x []) (qTz107 x v c a fun x_2=>nN (qTz243 c []) (qTz147 a c (nN (qTz243 c [qE a,qE x.lv]) (qTz166 c (nN (qTz170 ((9,.lt 2 3)::zfy (zfy (zfy (zfy [(7,.lt2 0 1 2 3),qE ((quX c a x.lv).b),qE x.x,(1,.eqI 0 0)]))))) (zeb c v x v.x (qTz107 x v c a fun x_3=>qTz72 x (nN (qTz183 [(9,.lt 1 3)]) (zc3 v.x v x x_2 x_3 (U ((1<=1/\1<1+1)/\J1 3 x.s { x with m:=x_2,x:=O 0,z:=O 0,t:=O 0 }) (zby v x_2 c x_3 x v.x (nN (qE a::qTz31 x ((1,.le 2 3)::zdr a x (qE a::qE x.lv::qTz58 c a x []))) (qTz105 c a x (qTz106 c a x zx))))))))))))))))
 (U (∀(x_2:Nat×XTz),okTz 14 x_2.fst/\J1 (tzP 14 x_2.fst) x.s x_2.snd->1<=x_2.fst/\x_2.fst<2) (z9 Bool (fun (x:Bool)=>True) fun (b:Bool)=>zj b
 (z9 XTz (fun (x_2:XTz)=>(1<=1/\1<1+1)/\J1 3 x.s x_2) fun (x_2:XTz)=>qTzs2 v x_2 c a x ln g J2 I)
 zx))))))
 (U True zx))
 zx)):=by kernel_rfl
theorem vTz15_eq(c:Cf)(v:Ev)(a:Int)(cf ln lc:Nat)(g:Nat->Int)(I:Nat×XTz->Prop)(J1 J2:Nat->Int->XTz->Prop):V.pr (.b (.b (.b (.b (.t (.f .z)) (.b (.f (.t (.f (.t .z)))) (.f (.f (.f (.t .z)))))) .z) .z) .z) (vTzO 15 c v a cf ln lc g I J1 J2)=
  zcu I v.m v cf c v.x (nN [qE a,qE cf,qE cf] (zct a I fun b=>zj b
 (z9 XTz (fun (x:XTz)=>I (15,x)) fun (x:XTz)=>zj (decide (x.s<O 200))
 (nN (zbp v x c v.x a (qTz184 x a [])) (qTz71 fun x_1=>zj x_1
 (zcr v x (nN ((25,.lt2 0 1 0 1)::qTz22 c [qE x.t,(1,.eqI 0 0)]) (U (okYn c.W c.L c.C c.T c.D c.H/\lT c=lTn c.W c.L c.C c.D c.H/\O 0<=O 0/\O 0<=O 4) (nN (qE (tkN c.W c.L c.C c.T c.D c.H x.t (O 0))::qTz226 (zd4 v x [])) (qTz42 x v c fun x_2=>zj (!(x.m).hit v.n (tkN c.W c.L c.C c.T c.D c.H x.t (O 0)) (O 1))
 (qTz201 x (qTz128 x fun x_3=>nN [(15,.lt2 0 1 0 1),(6,.lt 0 1),(45,.lt2 0 1 0 1)] (qTz241 x fun x_4=>qTz182 (nN [(6,.lt2 0 1 0 1)] (qTz108 (zhb (qTz202 (nN (qTz20 c (qE x.t::(1,.eqI 0 0)::qTz74 [])) (qTz127 c x (nN (qTz226 []) (zeb c v x v.x (qTz42 x v c fun x_5=>U ((!(x.m).hit v.n (tkN c.W c.L c.C c.T c.D c.H x.t (O 0)) (O 1))=true) (zho (zho (zho (qTz214 x (qTz129 x fun x_6=>qTz103 x_4 (qTz224 (zgl (zgl (zgl (zgl (U (0<1+1) (nN (zhe v.x v (zd1 x x_3 [])) (qTz133 v x_2 x v.x (qTz148 x x_3 (ze6 x a (qTz130 v x_5 x_2 (nN (qE x.now::qE v.x.n::qE v.b.r::zd1 x x_6 []) (qTz123 v x_5 x_2 v.x (qTz148 x x_6 (ze6 x a (nN (qTz91 v.x (qTz91 v.x [])) (U (okCm (Cm.mk v.n x_2 x.now v.x (x.l.n+1) (Evs.mk (aN x.l.n (O 15) x.l.v.k) (aN x.l.n a x.l.v.w) (aN x.l.n x.t x.l.v.t) (aN x.l.n (O 0) x.l.v.o) (aN x.l.n (O 0) x.l.v.l)))) (qTz120 v x_2 x (U ((1<=1/\1<1+1)/\J1 0 x.s (XTz.mk x.s x_2 x.now x.t (O 0) (O 0) (O 0) (O 0) (O 0) x_4 (El.mk (x.l.n+1) (Evs.mk (aN x.l.n (O 15) x.l.v.k) (aN x.l.n a x.l.v.w) (aN x.l.n x.t x.l.v.t) (aN x.l.n (O 0) x.l.v.o) (aN x.l.n (O 0) x.l.v.l))) x_3 x_6)) (qTz121 v x_2 c x_5 (nN (qTz125 x v v.x (qE v.b.r::zd1 x x_6 [qE v.b.c,qL v.n])) (qTz49 v x_5 x_2 x (nN (qTz24 c (zhe v.x v (zd1 x x_3 [qE x_3]))) (U (x.l.n+1<=x.l.n+1) (nN (qTz172 x a (qTz220 x [qE x_6])) (U (x.l.n+1<=x.l.n+1) (nN (qTz172 x a (qTz220 x (qTz25 v v.x [qE a,qE x_4,qE x_4]))) (U (1<=1+1) (nN [qE a,qE x.t,qE a] (zfh zx)))))))))))))))))))))))))))))))))))))))))))))))
 (nN [(6,.lt2 0 1 0 1)] (qTz101 x v.x (U (0+x.t.toNat<v.x.n) (U (0+x.t.toNat<v.x.n) (U (0+x.t.toNat<v.x.n) (zj (v.x.st (0+x.t.toNat))
 (qTz201 x (qTz128 x fun x_3=>nN [(20,.lt2 0 1 0 1),(6,.lt 0 1),(45,.lt2 0 1 0 1)] (qTz241 x fun x_4=>qTz182 (nN [(6,.lt2 0 1 0 1)] (qTz108 (zhb (qTz202 (nN (qTz20 c (qE x.t::(1,.eqI 0 0)::qTz74 [])) (qTz127 c x (nN (qTz226 []) (zeb c v x v.x (qTz42 x v c fun x_5=>qTz240 x v c (qTz173 x v.x (U (0<1/\0+x.t.toNat<v.x.n) (U (v.x.st (0+x.t.toNat)=true) (qTz227 (qTz173 x v.x (U (0+x.t.toNat<v.x.n) (zho (zho (zho (qTz214 x (qTz129 x fun x_6=>qTz238 (qTz103 x_4 (qTz224 (zgl (zgl (zgl (nN [(6,.lt2 0 1 0 1)] (qTz142 x_4 (nN (zhe v.x v (zd1 x x_3 [])) (qTz133 v x_2 x v.x (qTz65 x x_3 (ze6 x a (qTz130 v x_5 x_2 (nN (qE x.now::qE v.x.n::qE v.b.r::zd1 x x_6 []) (qTz85 v x_5 x_2 (qTz89 v.x v (qTz199 v.x x (qTz65 x x_6 (ze6 x a (nN (qTz91 v.x []) (qTz167 v.x v x_2 x a (qTz120 v x_2 x (nN [(6,.lt2 0 1 0 1)] (U ((x.t == x.t)=true) (nN (zhe v.x v (zd1 x x_3 [])) (qTz133 v x_2 x v.x (qTz65 x x_3 (ze6 x a (qTz130 v x_5 x_2 (nN (qE x.now::qE v.x.n::qE v.b.r::zd1 x x_6 []) (qTz85 v x_5 x_2 (qTz89 v.x v (qTz199 v.x x (qTz65 x x_6 (ze6 x a (nN (qTz91 v.x []) (qTz167 v.x v x_2 x a (U True zx))))))))))))))))))))))))))))))))))))))))))))))))))))))))))))
 (U (0+x.t.toNat<v.x.n) (U (0+x.t.toNat<v.x.n) (U (0+x.t.toNat<v.x.n) (qTz201 x (qTz128 x fun x_3=>nN [(20,.lt2 0 1 0 1),(6,.lt 0 1),(45,.lt2 0 1 0 1)] (qTz241 x fun x_4=>qTz182 (nN [(6,.lt2 0 1 0 1)] (qTz108 (zhb (qTz202 (nN (qTz20 c (qE x.t::(1,.eqI 0 0)::qTz74 [])) (qTz127 c x (nN (qTz226 []) (zeb c v x v.x (qTz42 x v c fun x_5=>qTz240 x v c (qTz173 x v.x (U (0<1/\0+x.t.toNat<v.x.n) (U (v.x.st (0+x.t.toNat)=false) (qTz227 (qTz173 x v.x (U (0+x.t.toNat<v.x.n) (zho (zho (zho (qTz214 x (qTz129 x fun x_6=>qTz238 (qTz103 x_4 (qTz224 (zgl (zgl (zgl (nN [(6,.lt2 0 1 0 1)] (qTz142 x_4 (nN (zhe v.x v (zd1 x x_3 [])) (qTz132 v x_2 x (qTz88 v.x v (qTz77 v.x x (qTz66 x x_3 (ze6 x a (qTz130 v x_5 x_2 (nN (qE x.now::qE v.x.n::qE v.b.r::zd1 x x_6 []) (qTz85 v x_5 x_2 (qTz89 v.x v (qTz77 v.x x (qTz66 x x_6 (ze6 x a (nN (qTz91 v.x []) (qTz150 v.x v x_2 x a (qTz120 v x_2 x (nN [(6,.lt2 0 1 0 1)] (U ((x.t == x.t)=true) (nN (zhe v.x v (zd1 x x_3 [])) (qTz132 v x_2 x (qTz88 v.x v (qTz77 v.x x (qTz66 x x_3 (ze6 x a (qTz130 v x_5 x_2 (nN (qE x.now::qE v.x.n::qE v.b.r::zd1 x x_6 []) (qTz85 v x_5 x_2 (qTz89 v.x v (qTz77 v.x x (qTz66 x x_6 (ze6 x a (nN (qTz91 v.x []) (qTz150 v.x v x_2 x a (U True zx))))))))))))))))))))))))))))))))))))))))))))))))))))))))))))))))))))))))))))))
 (U (∀(x_2:Nat×XTz),okTz 15 x_2.fst/\J1 (tzP 15 x_2.fst) x.s x_2.snd->1<=x_2.fst/\x_2.fst<2) (z9 Bool (fun (x:Bool)=>True) fun (b:Bool)=>zj b
 (z9 XTz (fun (x_2:XTz)=>(1<=1/\1<1+1)/\J1 0 x.s x_2) fun (x_2:XTz)=>nN (zbp v x_2 c v.x a (zep x_2 a [qE a])) (qTz71 fun x_3=>zj x_3
 (zj (decide (x.s<(↑ln:Int)))
 (zej x ln (zj ((g (0+x.s.toNat)).tmod (O 3) == O 1)
 (zcv x ln g v x_2 c v.x fun x_4=>U (J2 0 x.s (XTz.mk x.s x_4 x_2.now x_2.n (O 0) (O 0) (O 0) (O 0) (O 0) x_2.cf x_2.l x_2.na x_2.nb)) (nN (zcs v x_4 c x_2 v.x (qE a::zep x_2 a [qE a])) (zfh zx)))
 (qTz100 J2 x x_2 v c v.x a (nN (zep x_2 a [qE a]) (zfh zx)))))
 (qTz100 J2 x x_2 v c v.x a (nN (zep x_2 a [qE a]) (zfh zx))))
 (z9 XTz (J2 0 x.s) fun (x_4:XTz)=>nN (zbp v x_4 c v.x a (zep x_4 a [qE a])) (qTz71 fun x_5=>zj x_5
 (zj (decide (x.s<(↑ln:Int)))
 (zcp x ln (zj ((g (0+x.s.toNat)).tmod (O 13) == O 5)
 (U (J2 0 x.s (XTz.mk x.s x_4.m (i64.wrap (x_4.now+O 1)) x_4.n (O 0) (O 0) (O 0) (O 0) (O 0) x_4.cf x_4.l x_4.na x_4.nb)) (nN (zco v x_4 c v.x (qE a::zep x_4 a [qE a])) (zfh zx)))
 (qTz100 J2 x x_4 v c v.x a (nN (zep x_4 a [qE a]) (zfh zx)))))
 (qTz100 J2 x x_4 v c v.x a (nN (zep x_4 a [qE a]) (zfh zx))))
 (z9 XTz (J2 0 x.s) fun (x_6:XTz)=>zj (x.s == O 2)
 (qTz163 I x_6 x (nN (zbp v x_6 c v.x a (zep x_6 a [qE a])) (zfh zx)))
 (qTz163 I x_6 x (nN (zbp v x_6 c v.x a (zep x_6 a [qE a])) (zfh zx))))))))
 zx))))
 (U True zx))
 zx)):=by kernel_rfl
def rmT(p cf:Nat):Prop:=tzM p=1\/tzM p<=cf
def iTz(x:Nat×XTz):Prop:=rI x.2.s x.2.m/\x.1<16/\rmT x.1 x.2.cf/\wW x.2.x/\rE x.2.s x.2.l x.2.na x.2.nb
def jTz(b:Int)(p:Nat)(q:Int)(x:XTz):Prop:=rM b q x.m/\rmT p x.cf/\wW x.x/\rE (q+1) x.l x.na x.nb
theorem okTz_i{n i:Nat}(h:okTz n i):1<=i/\i<1+(tzX n).length:=h
section
variable {c:Cf} {v:Ev} {q s now k a y lv u xx zz t nn:Int} {j n cf p na nb ne:Nat} {m:Mm} {x:XTz} {l:El} {ev:Evs} {st:Nat->Bool}
theorem Tz_r(hi:iTz (j,x))(h:decide (x.s<(n:Int))=true):O 0<=x.s/\x.s<n:=q_r hi.1 h
theorem Tz_r2(hi:iTz (j,x))(h:decide (x.s<(n:Int))=true):0<1/\0+x.s.toNat<n:=q_r2 hi.1 h
theorem Tz_mu(hi:iTz (j,x))(hs:decide (x.s<O 200)=true):(O 200-i64.wrap (x.s+O 1)).toNat<(O 200-x.s).toNat:=q_mu hi.1 hs (by decide)
theorem Tz_ct(hi:iTz (j,x))(hs:decide (x.s<O 200)=true)(h:m=x.m.acc n k a y):decide (m.ct>i64.wrap (x.m.ct+O 1))=false:=q_ctf hi.1 hs (by decide) h
theorem Tz_cg(hi:iTz (j,x))(hs:decide (x.s<O 200)=true):decide (x.m.ct>i64.wrap (x.m.ct+O 1))=false:=q_ctg hi.1 hs (by decide)
theorem Tz_v(hi:iTz (j,x)):wW (x.m.val n a):=q_v hi.1
theorem Tz_f(hi:iTz (j,x))(hj:¬tzM j=1):tzM j<=x.cf:=hi.2.2.1.resolve_left hj
theorem Tz_f3(hi:iTz (j,x))(hj:tzM j=3):3<=x.cf:=by have:=Tz_f hi (by show ¬tzM j=1;omega);rwa [hj]at this
theorem Tz_f2(hi:iTz (j,x))(hj:tzM j=2):2<=x.cf:=by have:=Tz_f hi (by show ¬tzM j=1;omega);rwa [hj]at this
theorem Tz_e(hi:iTz (j,x)):rE x.s x.l x.na x.nb:=hi.2.2.2.2
theorem Tz_sz(hi:iTz (j,x))(hs:decide (x.s<O 200)=true):x.l.n+1<=9223372036854775807/\(x.l.n+1)*40<=140737488355328:=e_sz (m:=x.m) (Tz_e hi) hs (by decide)
theorem Tz_ea(hi:iTz (j,x)):x.l.n<=x.l.n/\x.l.n<=x.na:=e_a (Tz_e hi)
theorem Tz_eb(hi:iTz (j,x)):x.l.n<=x.l.n/\x.l.n<=x.nb:=e_b (Tz_e hi)
theorem Tz_cm(h:okMq c v)(hi:iTz (j,x))(hs:decide (x.s<O 200)=true)(hn:ne<=x.l.n+1):okCm ⟨v.n,m,now,v.x,ne,ev⟩:=e_cm h (Tz_e hi) hs (by decide) hn
theorem Tz_cm1(h:okMq c v)(hi:iTz (j,x))(hs:decide (x.s<O 200)=true)(hn:ne<=x.l.n+1):okCm ⟨v.n,m,now,⟨v.x.n,v.x.p,v.x.pa,v.x.pc,v.x.lf,v.x.wt,v.x.kl,v.x.kd,st⟩,ne,ev⟩:=e_cm (m:=m) (now:=now) (e:=ev) h (Tz_e hi) hs (by decide) hn
theorem Tz_e0(hi:iTz (j,x)):rE (x.s+1) x.l x.na x.nb:=e_0 (Tz_e hi)
theorem Tz_e1(hi:iTz (j,x)){a b:Nat}(ha:x.l.n+1<=a)(hb:x.l.n+1<=b):rE (x.s+1) ⟨x.l.n+1,ev⟩ a b:=e_1 (Tz_e hi) ha hb
theorem Tz_j(hi:iTz (j,x))(hs:decide (x.s<O 200)=true)(hm:m=x.m.acc n k a y)(hy:wW y)(hf:rmT p cf)(hx:wW xx)(he:rE (x.s+1) l na nb):jTz 1 p x.s ⟨x.s,m,now,nn,lv,u,xx,zz,t,cf,l,na,nb⟩:=⟨q_j hi.1 hs (by decide) hm hy,hf,hx,he⟩
theorem zhm{b:Int}(h:jTz b p q x):wW x.x:=h.2.2.1
theorem Tz_ix(h:iTz (j,x)):wW x.x:=h.2.2.2.1
theorem Tz_2(h:jTz 1 p q x)(hx:wW xx):jTz 2 p q ⟨s,x.m,now,nn,lv,u,xx,zz,t,x.cf,x.l,x.na,x.nb⟩:=⟨q_2 h.1,h.2.1,hx,h.2.2.2⟩
theorem Tz_2d(h:jTz 1 p q x)(hm:okMw (x.m.ct+O 1) m)(hx:wW xx):jTz 2 p q ⟨s,m,now,nn,lv,u,xx,zz,t,x.cf,x.l,x.na,x.nb⟩:=⟨q_2d h.1 hm,h.2.1,hx,h.2.2.2⟩
theorem Tz_3(h:jTz 2 p q x)(hx:wW xx):jTz 2 p q ⟨s,x.m,now,nn,lv,u,xx,zz,t,x.cf,x.l,x.na,x.nb⟩:=⟨h.1,h.2.1,hx,h.2.2.2⟩
theorem Tz_i(h:jTz 2 j q x)(hj:j<16)(hx:wW xx):iTz (j,⟨i64.wrap (q+O 1),x.m,now,nn,lv,u,xx,zz,t,x.cf,x.l,x.na,x.nb⟩):=⟨q_i h.1,hj,h.2.1,hx,by rw[q_w h.1];exact h.2.2.2⟩
theorem Tz_0(h:okMq c v)(hx:wW xx):iTz (0,⟨O 0,v.m,now,nn,lv,u,xx,zz,t,cf,⟨0,ev⟩,na,nb⟩):=⟨q_m0 h,by show(0:Nat)<16;decide,.inl rfl,hx,Int.le_refl 0,Nat.zero_le _,Nat.zero_le _⟩
theorem Tz_n1{a:Int}(h1:decide (a>O 0)=true)(h2:(a == O 0)=true):False:=by
 have h1:a>0:=of_decide_eq_true h1
 have h2:a=0:=eq_of_beq h2
 omega
theorem Tz_n2{a:Int}(h1:decide (a>O 0)=true)(h2:decide (a<O 0)=true):False:=by
 have h1:a>0:=of_decide_eq_true h1
 have h2:a<0:=of_decide_eq_true h2
 omega
theorem Tz_n3{a:Int}(h1:decide (a>O 0)=false)(h2:(a == O 0)=false)(h3:decide (a<O 0)=false):False:=by
 have h1:¬a>0:=of_decide_eq_false h1
 have h2:¬a=0:=fun e=>by rw[e]at h2;cases h2
 have h3:¬a<0:=of_decide_eq_false h3
 omega
theorem Tz_qc(h:okMq c v):(quX c s q).c<=O 9223372036854775807:=Int.le_trans (quN_c h) (by decide)
end
theorem vhTzA{c:Cf}{v:Ev}{w:Int}{cf ln lc:Nat}{g:Nat->Int}(h0:okMq c v/\v.x.n<=v.a.r/\v.x.n<=v.b.r):zac (vTzO 0 c v w cf ln lc g iTz (jTz 1) (jTz 2))/\zac (vTzO 1 c v w cf ln lc g iTz (jTz 1) (jTz 2))/\zac (vTzO 2 c v w cf ln lc g iTz (jTz 1) (jTz 2))/\zac (vTzO 3 c v w cf ln lc g iTz (jTz 1) (jTz 2))/\zac (vTzO 4 c v w cf ln lc g iTz (jTz 1) (jTz 2))/\zac (vTzO 5 c v w cf ln lc g iTz (jTz 1) (jTz 2))/\zac (vTzO 6 c v w cf ln lc g iTz (jTz 1) (jTz 2))/\zac (vTzO 7 c v w cf ln lc g iTz (jTz 1) (jTz 2))/\zac (vTzO 8 c v w cf ln lc g iTz (jTz 1) (jTz 2))/\zac (vTzO 9 c v w cf ln lc g iTz (jTz 1) (jTz 2))/\zac (vTzO 10 c v w cf ln lc g iTz (jTz 1) (jTz 2))/\zac (vTzO 11 c v w cf ln lc g iTz (jTz 1) (jTz 2))/\zac (vTzO 12 c v w cf ln lc g iTz (jTz 1) (jTz 2))/\zac (vTzO 13 c v w cf ln lc g iTz (jTz 1) (jTz 2))/\zac (vTzO 14 c v w cf ln lc g iTz (jTz 1) (jTz 2))/\zac (vTzO 15 c v w cf ln lc g iTz (jTz 1) (jTz 2)):=by
 obtain⟨h,hra,hrb⟩:=h0
 refine⟨zac.pr (vTz0_eq ..) ?_,zac.pr (vTz1_eq ..) ?_,zac.pr (vTz2_eq ..) ?_,zac.pr (vTz3_eq ..) ?_,zac.pr (vTz4_eq ..) ?_,zac.pr (vTz5_eq ..) ?_,zac.pr (vTz6_eq ..) ?_,zac.pr (vTz7_eq ..) ?_,zac.pr (vTz8_eq ..) ?_,zac.pr (vTz9_eq ..) ?_,zac.pr (vTz10_eq ..) ?_,zac.pr (vTz11_eq ..) ?_,zac.pr (vTz12_eq ..) ?_,zac.pr (vTz13_eq ..) ?_,zac.pr (vTz14_eq ..) ?_,zac.pr (vTz15_eq ..) ?_⟩
 all_goals (with_reducible repeat' first|exact V.okI|refine V.brT ?_|refine V.brF ?_|refine V.brI ?_ ?_|refine V.anyI ?_|refine nN_h rfl ?_|refine V.needI ?_ ?_|intro _)
 all_goals first
  | assumption
  | exact True.intro
  | exact Nat.zero_le _
  | (have h9:=okTz_i (And.left ‹_›);exact h9)
  | exact Tz_cm h ‹_› ‹_› (by first|exact Nat.le_succ _|exact zq _)
  | exact Tz_cm1 h ‹_› ‹_› (by first|exact Nat.le_succ _|exact zq _)
  | exact q_ka ‹_›
  | exact q_kb ‹_›
  | exact Tz_ea ‹_›
  | exact Tz_eb ‹_›
  | exact Tz_sz ‹_› ‹_›
  | exact Tz_r ‹_› ‹_›
  | exact Tz_r2 ‹_› ‹_›
  | exact Tz_mu ‹_› ‹_›
  | exact Tz_ct ‹_› ‹_› ‹_›
  | exact Tz_cg ‹_› ‹_›
  | exact Tz_qc ‹_›
  | exact Tz_v ‹_›
  | exact⟨by decide,Tz_j ‹_› ‹_› ‹_› (by first|exact Tz_v ‹_›|exact Tz_ix ‹_›|exact zgs _|exact bits_ok _|exact casV_ok (Tz_v ‹_›) (zgs _)|exact casV_ok (Tz_v ‹_›) ⟨by decide,by decide⟩|exact⟨by decide,by decide⟩) (by first|exact .inl rfl|exact .inr ‹_›|exact .inr (Nat.le_trans (by decide) (Tz_f3 ‹_› (by decide)))|exact .inr (Tz_f2 ‹_› (by decide))) (by first|exact Tz_v ‹_›|exact Tz_ix ‹_›|exact⟨by decide,by decide⟩) (by first|exact Tz_e0 ‹_›|exact Tz_e1 ‹_› ‹_› ‹_›)⟩
  | exact Tz_2 (And.right ‹_›) (by first|exact zhm (And.right ‹_›)|exact zhm ‹_›|exact⟨by decide,by decide⟩)
  | exact Tz_2d (And.right ‹_›) ‹_› (by first|exact zhm (And.right ‹_›)|exact zhm ‹_›|exact⟨by decide,by decide⟩)
  | exact Tz_2 ‹_› (by first|exact zhm (And.right ‹_›)|exact zhm ‹_›|exact⟨by decide,by decide⟩)
  | exact Tz_2d ‹_› ‹_› (by first|exact zhm (And.right ‹_›)|exact zhm ‹_›|exact⟨by decide,by decide⟩)
  | exact Tz_3 ‹_› (by first|exact zhm (And.right ‹_›)|exact zhm ‹_›|exact⟨by decide,by decide⟩)
  | exact Tz_i ‹_› (by decide) (by first|exact zhm (And.right ‹_›)|exact zhm ‹_›|exact⟨by decide,by decide⟩)
  | (exfalso;exact Tz_n1 (by with_reducible assumption) (by with_reducible assumption))
  | (exfalso;exact Tz_n2 (by with_reducible assumption) (by with_reducible assumption))
  | (exfalso;exact Tz_n3 (by with_reducible assumption) (by with_reducible assumption) (by with_reducible assumption))
  | exact q_di (q_n ‹_›) (And.left (And.right ‹_›))
  | exact q_ex (And.left (And.right ‹_›))
  | exact q_di (q_n ‹_›) (And.left ‹_›)
  | exact q_ex (And.left ‹_›)
  | exact⟨by decide,by decide,Int.ofNat_le.2 (Nat.le_trans (by decide) (Tz_f3 ‹_› (by decide)))⟩
  | exact⟨by decide,by decide,Int.ofNat_le.2 (Nat.le_trans (by decide) (Tz_f2 ‹_› (by decide)))⟩
  | (refine⟨by decide,by decide,?_⟩;simp only[Int.ofNat_eq_natCast];omega)
  | exact⟨by decide,by decide,Int.natCast_nonneg _⟩
  | exact⟨by decide,rfl⟩
  | exact And.left ‹_›
  | exact And.left (And.right (by assumption:iTz _))
  | exact h.1
  | exact⟨h.1,rfl⟩
  | exact⟨h.1,rfl,by decide,by decide⟩
  | exact q_yk ‹_› (by decide)
  | exact Tz_0 ‹_› ⟨by decide,by decide⟩
  | exact q_hitN ‹_› (q_nf ‹_›)
  | exact⟨Nat.zero_lt_one,q_hitN ‹_› (q_nf ‹_›)⟩
  | exact q_hit ‹_› (q_nf ‹_›)
  | exact q_same ‹_›
  | exact(beq_self_eq_true _).symm
  | (subst_vars;rfl)
  | exact q_nt (by with_reducible assumption)
  | exact q_nf (by with_reducible assumption)
  | exact beq_self_eq_true _
  | decide
  | exact Int.le_refl 0
  | exact zq _
  | exact⟨v.m,trivial⟩
  | exact⟨zq _,rfl⟩
  | exact⟨zq _,by assumption⟩
  | exact⟨Nat.zero_le _,Nat.zero_le _⟩
  | exact q_if ‹_›
  | trace_state
theorem vhTz{c:Cf}{v:Ev}{w:Int}{cf ln lc:Nat}{g:Nat->Int}(h:okMq c v/\v.x.n<=v.a.r/\v.x.n<=v.b.r):zac (vTz c v w cf ln lc g iTz (jTz 1) (jTz 2)):=
 verO_h (k:=16) (m:=1) (by decide) fun j hj=>by
  have a:=vhTzA (w:=w) (cf:=cf) (ln:=ln) (lc:=lc) (g:=g) h
  rcases(show j=0\/j=1\/j=2\/j=3\/j=4\/j=5\/j=6\/j=7\/j=8\/j=9\/j=10\/j=11\/j=12\/j=13\/j=14\/j=15 by omega) with rfl|rfl|rfl|rfl|rfl|rfl|rfl|rfl|rfl|rfl|rfl|rfl|rfl|rfl|rfl|rfl
  ·exact a.1
  ·exact a.2.1
  ·exact a.2.2.1
  ·exact a.2.2.2.1
  ·exact a.2.2.2.2.1
  ·exact a.2.2.2.2.2.1
  ·exact a.2.2.2.2.2.2.1
  ·exact a.2.2.2.2.2.2.2.1
  ·exact a.2.2.2.2.2.2.2.2.1
  ·exact a.2.2.2.2.2.2.2.2.2.1
  ·exact a.2.2.2.2.2.2.2.2.2.2.1
  ·exact a.2.2.2.2.2.2.2.2.2.2.2.1
  ·exact a.2.2.2.2.2.2.2.2.2.2.2.2.1
  ·exact a.2.2.2.2.2.2.2.2.2.2.2.2.2.1
  ·exact a.2.2.2.2.2.2.2.2.2.2.2.2.2.2.1
  ·exact a.2.2.2.2.2.2.2.2.2.2.2.2.2.2.2
theorem lTz{c:Cf}{v:Ev}{a:Int}{cf ln lc:Nat}{g:Nat->Int}:zai P fMt (argMq tzSX 200 ln lc) (hTz c v a cf ln g) 19 (yesO 19 (okMq c v/\v.x.n<=v.a.r/\v.x.n<=v.b.r)):=zah cnTz_ok fun h=>vhTz h
noncomputable section
theorem cTz_ok:zab P fMt cTz:=zad fun args H=>by
 unfold cTz
 simp only[fN_eq]
 repeat' split
 all_goals first
  | exact .inl ⟨_,rfl⟩
  | with_reducible exact .inr ⟨_,_,_,_,_,rfl,lTz⟩
end
end Go.Proofs.YtjgldffneablmaaGreat.En
