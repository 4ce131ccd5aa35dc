/- A part of the proof. -/
import Derived.Test.YtabiechfpefjhaaGreatMEnPr
import Derived.Test.YtabiechfpefjhaaGreatMEg
import Derived.Test.YtabiechfpefjhaaGreatMW
import Derived.Test.YtabiechfpefjhaaGreatMV
import Derived.Test.YtabiechfpefjhaaGreatMEnG
import Derived.Test.YtabiechfpefjhaaGreatMMd
set_option maxHeartbeats 64000000
set_option linter.unusedVariables false
set_option linter.unusedSimpArgs false
set_option maxRecDepth 100000
open Go.IntKind (i64 u64)
open Int renaming ofNat -> O
open Nat renaming le_refl -> Z
open Go.Proofs.YtabiechfpefjhaaGreat.Sx.V renaming need -> U
namespace Go.Proofs.YtabiechfpefjhaaGreat.En
open Go Go.RowKit Sx Cn Dc Ck Vc Md
noncomputable section
structure XPv where
 s:Int
 m:Mm
 now:Int
 pr:Pr
 A:A16
 f:Fp
def pvX:SC:=.ifc 97 14 (.k 0) (.k 0) 0 23
def laProbe(I:XPv->Prop)(s:St):Option (LA XPv):=match find (tmK 3 s) s.H.h,find (frKi 3 s) s.H.h with
 | some bm,some (.row tf cf nf _)=>laMt XPv.m XPv.now XPv.s [(tmK 2,false),(tmK 3,true),(frKi 3,true)] (fun x=>[prB x.pr x.A,bm,.row tf cf nf (fpR x.f)])
   (fun q m w s=>match rdPr (tmK 2 s) s.H.h,rdFp (find (frKi 3 s) s.H.h) with|some (p,A),some f=>some ⟨q,m,w,p,A,f⟩|_,_=>none) I s
 | _,_=>none
def conPv:Con:=Con.add fPs cPs (Con.add fRpb cRp (Con.add fRA cRA (Con.add fDi cDi (Con.add fSm cSm (conU con0)))))
theorem conPv_ok:zaj P conPv:=.add cPs_ok (.add cRp_ok (.add cRA_ok (.add cDi_ok (.add cSm_ok (conU_ok zaj.nil)))))
def hPv(c:Cf)(v:Ev)(w b d:Int)(cf ln:Nat)(g:Nat->Int):HL:=hMt c v (prB (p0 w) A0) (fpR ⟨1,w,0,0,0,0⟩) cf ln g
def vPv(c:Cf)(v:Ev)(w b d:Int)(cf ln lc:Nat)(g:Nat->Int)(I:XPv->Prop)(J1 J2:Int->XPv->Prop):V:=verF P conPv 6 8 fMt [] (.loop XPv [.renT 2] (laProbe I) (.cut 16 XPv (laCt (laProbe fun _=>True) J1) .nil (.cut 18 XPv (laCt (laProbe fun _=>True) J2) .nil (.cut 21 XPv (laCt (laProbe fun _=>True) J2) .nil .nil))) .nil) (argMq pvX 30 ln lc) ⟨hPv c v w b d cf ln g,18,fun _=>True⟩ (yesF 18)
end
abbrev qPv0(a0:Rk)(l:List (Nat×P0)):List (Nat×P0):=(1,.pf (∀(i:Nat),i<a0.n->a0.kl i<=a0.kl i) (by intros;exact Z _))::(1,.pf (∀(i e:Nat),i<a0.n/\e<a0.kl i->a0.kd i e=a0.kd i e) (by intros;rfl))::l
abbrev qPv1(a0:Rk)(l:List (Nat×P0)):List (Nat×P0):=(1,.pf (∀(i e:Nat),i<1/\e<a0.n->e=e) (by intros;rfl))::(1,.pf (∀(i e:Nat),i<1/\e<a0.n->a0.kl e=a0.kl e) (by intros;rfl))::l
abbrev qPv2(a0:Rk)(a1:Ev)(a2:Ps)(a3:XPv)(k:V):V:=nN (qPv0 a0 []) (U (okCm (Cm.mk a1.n a2.m a3.now a0 0 (Evs.mk (fun (i:Nat)=>O 0) (fun (i:Nat)=>O 0) (fun (i:Nat)=>O 0) (fun (i:Nat)=>O 0) fun (i:Nat)=>O 0))) k)
abbrev qPv3(l:List (Nat×P0)):List (Nat×P0):=(1,.le 1 1)::(1,.pf (∀(i:Nat),i<1->1<=1) (by intros;exact Z _))::l
abbrev qPv4(a0:Ev)(a1:Ps)(k:V):V:=U (a0.n<=a0.n/\a0.n<=a0.a.c) (nN [(1,.pf (∀(i e:Nat),i=0/\e<a0.n->a1.m.g e=a1.m.g e) (by intros;rfl))] k)
abbrev qPv5(a0:XPv)(l:List (Nat×P0)):List (Nat×P0):=qE a0.m.lk::qE a0.m.lc::qE a0.m.lo::qE a0.m.ln::qE a0.m.ct::l
abbrev qPv6(l:List (Nat×P0)):List (Nat×P0):=(1,.le 0 0)::(1,.pf (∀(i:Nat),i<0->0<=0) (by intros;exact Z _))::l
abbrev qPv7(a0:Ev)(a1:Rr)(a2:Ps)(k:V):V:=U (a0.n<=a0.n/\a0.n<=a0.b.c) (U (∀(i e:Nat),i=0/\e<a0.n->a1.m.g e=a2.m.g e) k)
abbrev qPv8(a0:Rk)(a1:Ev)(l:List (Nat×P0)):List (Nat×P0):=qPv1 a0 ((1,.pf (∀(i e:Nat),i<1/\e<a0.n->a1.a.k e=a1.a.k e) (by intros;rfl))::l)
abbrev qPv9(a0:Rk)(a1:Ev)(l:List (Nat×P0)):List (Nat×P0):=qPv1 a0 ((1,.pf (∀(i e:Nat),i<1/\e<a0.n->a1.b.k e=a1.b.k e) (by intros;rfl))::l)
abbrev qPv10(a0:Ev)(a1:XPv)(l:List (Nat×P0)):List (Nat×P0):=qL a0.n::qF a0.n a1.m.g::l
abbrev qPv11(k:V):V:=U True (U (false=true) k)
abbrev qPv12(a0:Ev)(l:List (Nat×P0)):List (Nat×P0):=qE a0.b.r::(1,.eq 0 0)::qE a0.b.e::l
abbrev qPv13(a0:Ev)(l:List (Nat×P0)):List (Nat×P0):=qE a0.n::qE a0.a.c::l
abbrev qPv14(a0:Ps)(a1:Cf)(a2:Ev)(k:V):V:=U (a0.p.e=false->zc8 (Ly.mk a1.W a1.L a1.C a1.T a1.D a1.H (lS a1) (lE a1) (lB a1) (lQ a1) (lT a1)) a0.p a0.B a0.m) (U (∃(x:Ps),psO (Ly.mk a1.W a1.L a1.C a1.T a1.D a1.H (lS a1) (lE a1) (lB a1) (lQ a1) (lT a1)) a2.n a2.dr a0.p a0.B a0.m x) k)
abbrev qPv15(a0:Ev)(l:List (Nat×P0)):List (Nat×P0):=qPv12 a0 (qE a0.b.c::l)
abbrev qPv16(a0:XPv)(a1:Ev)(l:List (Nat×P0)):List (Nat×P0):=qE a0.now::qE a1.dr::l
abbrev qPv17(a0:XPv)(l:List (Nat×P0)):List (Nat×P0):=qE a0.pr.e::qE a0.pr.co::qE a0.pr.va::qE a0.pr.w::qE a0.pr.b::qE a0.pr.st::qE a0.pr.nx::qE a0.A.a0::qE a0.A.a1::qE a0.A.a2::qE a0.A.a3::qE a0.A.a4::qE a0.A.a5::qE a0.A.a6::qE a0.A.a7::qE a0.A.a8::qE a0.A.a9::qE a0.A.a10::qE a0.A.a11::qE a0.A.a12::qE a0.A.a13::qE a0.A.a14::qE a0.A.a15::l
abbrev qPv18(a0:XPv->Prop)(a1 a2:XPv)(k:V):V:=U (a0 { a1 with s:=i64.wrap (a2.s+O 1) }) (U ((O 200-i64.wrap (a2.s+O 1)).toNat<(O 200-a2.s).toNat) k)
abbrev qPv19(a0:Ev)(l:List (Nat×P0)):List (Nat×P0):=qE a0.n::qE a0.b.c::l
abbrev qPv20(a0:XPv)(l:List (Nat×P0)):List (Nat×P0):=(1,.le 1 1)::qE a0.f.ln::qE a0.f.a::qE a0.f.i::qE a0.f.j::qE a0.f.n::qE a0.f.t::l
abbrev qPv21(a0:XPv)(a1:Ev)(l:List (Nat×P0)):List (Nat×P0):=qPv5 a0 (qPv16 a0 a1 l)
abbrev qPv22(a0:XPv)(a1:Nat)(k:V):V:=U (O 0<=a0.s/\a0.s<(↑a1:Int)) (U (0<1/\0+a0.s.toNat<a1) (U (0<1/\0+a0.s.toNat<a1) k))
abbrev qPv23(a0:Cf)(a1:Ev)(l:List (Nat×P0)):List (Nat×P0):=qE a0.W::qE a0.L::qE a0.C::qE a0.T::qE a0.D::qE a0.H::qE a0.B::qE a0.A::qE a0.P::qE a0.nP::qE a0.rc::qE a0.nU::qE a0.cu::qPv19 a1 l
abbrev qPv24(a0:Ev)(a1:XPv)(l:List (Nat×P0)):List (Nat×P0):=qPv13 a0 (qPv5 a1 (qE a0.a.c::qPv10 a0 a1 l))
abbrev qPv25(a0:Rk)(l:List (Nat×P0)):List (Nat×P0):=(1,.le 1 1)::(1,.pf (∀(i:Nat),i<1->a0.n<=a0.n) (by intros;exact Z _))::(1,.pf (∀(i e:Nat),i<1/\e<a0.n->a0.p e=a0.p e) (by intros;rfl))::(1,.pf (∀(i e:Nat),i<1/\e<a0.n->a0.pa e=a0.pa e) (by intros;rfl))::(1,.pf (∀(i e:Nat),i<1/\e<a0.n->a0.pc e=a0.pc e) (by intros;rfl))::(1,.pf (∀(i e:Nat),i<1/\e<a0.n->a0.lf e=a0.lf e) (by intros;rfl))::(1,.pf (∀(i e:Nat),i<1/\e<a0.n->a0.wt e=a0.wt e) (by intros;rfl))::l
abbrev qPv26(a0:Ev)(a1:XPv)(a2:Cf)(l:List (Nat×P0)):List (Nat×P0):=qPv24 a0 a1 (qPv23 a2 a0 l)
abbrev qPv27(a0:Ev)(a1:XPv)(a2:Cf)(l:List (Nat×P0)):List (Nat×P0):=qPv26 a0 a1 a2 (qPv21 a1 a0 l)
abbrev qPv28(l:List (Nat×P0)):List (Nat×P0):=(1,.le 0 1)::(1,.pf (∀(i:Nat),i<0->0<=0) (by intros;exact Z _))::l
abbrev qPv29(a0:XPv)(k:Bool->V):V:=nN (qPv20 a0 []) (V.any Bool (fun (x:Bool)=>True) fun (v0:Bool)=>k v0)
abbrev qPv30(a0:Ev)(a1:XPv)(l:List (Nat×P0)):List (Nat×P0):=qPv15 a0 (qPv10 a0 a1 (qPv16 a1 a0 (qPv17 a1 l)))
abbrev qPv31(a0:Ps)(l:List (Nat×P0)):List (Nat×P0):=qE a0.m.lk::qE a0.m.lc::qE a0.m.lo::qE a0.m.ln::qE a0.m.ct::l
abbrev qPv32(a0:Rk)(l:List (Nat×P0)):List (Nat×P0):=(1,.pf (∀(i e:Nat),i<1/\e<a0.n->a0.st e=a0.st e) (by intros;rfl))::(1,.le 1 1)::(1,.pf (∀(i:Nat),i<1->0<=0) (by intros;exact Z _))::(5,.pf (∀(i e:Nat),i<1/\e<0->O 0=O 0) (by intros;rfl))::l
abbrev qPv33(a0:Int->XPv->Prop)(a1 a2:XPv)(a3:Ev)(a4:Cf)(k:V):V:=U (a0 a1.s { a2 with s:=a1.s }) (nN (qPv27 a3 a2 a4 []) k)
abbrev qPv34(a0:Rr)(a1:Ps)(k:V):V:=U (a0.m.lk=a1.m.lk) (U (a0.m.lc=a1.m.lc) (U (a0.m.lo=a1.m.lo) (U (a0.m.ln=a1.m.ln) (U (a0.m.ct=a1.m.ct) k))))
abbrev qPv35(a0:Ev)(a1:Ps)(a2:XPv)(k:V):V:=qPv4 a0 a1 (U (decide (a1.m.ct>i64.wrap (a2.m.ct+O 1))=false) k)
abbrev qPvs0(c:Cf)(v:Ev)(x_2:Ps)(x:XPv)(x_3:Rr):V:=
  nN (qPv3 (qE c.W::qE c.W::qE c.L::qE c.C::qE c.T::qE c.D::qE c.H::qE (lS c)::qE (lE c)::qE (lB c)::qE (lQ c)::qE (lT c)::qPv13 v (qPv31 x_2 [qE v.a.c,qL v.n,qF v.n x_2.m.g,qE x_2.p.e,qE x_2.p.co,qE x_2.p.va,qE x_2.p.w,qE x_2.p.b,qE x_2.p.st,qE x_2.p.nx,qE x_2.B.a0,qE x_2.B.a1,qE x_2.B.a2,qE x_2.B.a3,qE x_2.B.a4,qE x_2.B.a5,qE x_2.B.a6,qE x_2.B.a7,qE x_2.B.a8,qE x_2.B.a9,qE x_2.B.a10,qE x_2.B.a11,qE x_2.B.a12,qE x_2.B.a13,qE x_2.B.a14,qE x_2.B.a15,qE v.dr]))) (qPv14 x_2 c v (V.any Ps (psO (Ly.mk c.W c.L c.C c.T c.D c.H (lS c) (lE c) (lB c) (lQ c) (lT c)) v.n v.dr x_2.p x_2.B x_2.m) fun (x_4:Ps)=>V.br x_4.b
 (nN (qPv3 (qE v.x.n::qE v.a.r::(1,.eq 0 0)::qE v.a.e::qPv13 v (qPv31 x_4 [(1,.le 1 1)]))) (qPv4 v x_4 (nN (qE x.now::qPv25 v.x (qPv8 v.x v (qPv32 v.x (qPv19 v [])))) (qPv34 x_3 x_4 (nN (qE x.now::qE v.x.n::qPv12 v [(1,.le 1 1)]) (qPv7 v x_3 x_4 (nN (qPv25 v.x (qPv9 v.x v (qPv32 v.x (qL v.x.n::qPv0 v.x [qL v.x.n])))) (qPv2 v.x v x_4 x (U True V.ok)))))))))
 (qPv11 V.ok)))
theorem vPv_eq(c:Cf)(v:Ev)(w b d:Int)(cf ln lc:Nat)(g:Nat->Int)(I:XPv->Prop)(J1 J2:Int->XPv->Prop):V.pr (.b (.b (.b .z (.b .z (.b (.b .z (.f .z)) (.b .z (.f .z))))) .z) .z) (vPv c v w b d cf ln lc g I J1 J2)=
  nN [(7,.lt2 0 1 0 1)] (U (I (XPv.mk (O 0) v.m v.now (Pr.mk false (O 0) (O 0) w false (O 0) (O 0)) (A16.mk (O 0) (O 0) (O 0) (O 0) (O 0) (O 0) (O 0) (O 0) (O 0) (O 0) (O 0) (O 0) (O 0) (O 0) (O 0) (O 0)) (Fp.mk (O 1) w (O 0) (O 0) (O 0) (O 0)))) (nN ((1,.eqI 0 0)::qPv13 v (qE v.m.lk::qE v.m.lc::qE v.m.lo::qE v.m.ln::qE v.m.ct::qE v.a.c::qL v.n::qF v.n v.m.g::qPv23 c v (qE v.m.lk::qE v.m.lc::qE v.m.lo::qE v.m.ln::qE v.m.ct::qE v.now::qE v.dr::qE v.x.n::qPv15 v [qL v.n,qF v.n v.m.g,qE v.now,qE v.dr,qE false,(2,.eqI 0 0),qE w,qE false,(18,.eqI 0 0),qE cf,qE cf,(1,.le 1 1),(1,.eqI 1 1),qE w,(4,.eqI 0 0)]))) (V.any XPv I fun (x:XPv)=>V.br (decide (x.s<O 30))
 (nN (qPv27 v x c (qE v.x.n::qPv30 v x [qE cf,qE cf])) (qPv29 x fun x_1=>V.br x_1
 (nN [(6,.lt2 0 1 0 1)] (V.br (x.pr.co != O 0) (U True (U (false=true) V.ok)) (V.br (x.pr.va != O 0) (U True (U (false=true) V.ok)) (nN ((3,.lt2 0 1 0 1)::qPv13 v [qE x.m.ct,(1,.le 1 1)]) (U (v.n<=v.n/\v.n<=v.a.c) (nN ((1,.pf (∀(i e:Nat),i=0/\e<v.n->x.m.g e=x.m.g e) (by intros;rfl))::qPv3 (qE c.W::qE c.W::qE c.L::qE c.C::qE c.T::qE c.D::qE c.H::qE (lS c)::qE (lE c)::qE (lB c)::qE (lQ c)::qE (lT c)::qPv24 v x (qPv17 x [qE v.dr]))) (U (x.pr.e=false->zc8 (Ly.mk c.W c.L c.C c.T c.D c.H (lS c) (lE c) (lB c) (lQ c) (lT c)) x.pr x.A x.m) (U (∃(x_2:Ps),psO (Ly.mk c.W c.L c.C c.T c.D c.H (lS c) (lE c) (lB c) (lQ c) (lT c)) v.n v.dr x.pr x.A x.m x_2) (V.any Ps (psO (Ly.mk c.W c.L c.C c.T c.D c.H (lS c) (lE c) (lB c) (lQ c) (lT c)) v.n v.dr x.pr x.A x.m) fun (x_2:Ps)=>nN ((7,.lt2 0 1 0 1)::(3,.lt 0 1)::(7,.lt2 0 1 0 1)::(3,.lt 0 1)::qPv23 c v (qPv21 x v (qE v.x.n::qPv15 v (qPv10 v x (qPv6 (qPv6 [(1,.le 0 1)])))))) (U (∀(i:Nat),i<0->0<=v.x.n) (nN (qPv28 (qE cf::qPv20 x [])) (U (zdg (Rv.mk { c with lenP:=fun (x:Nat)=>0,FC:=fun (x:Nat)=>0,iO:=fun (x x_3:Nat)=>O 0,iA:=fun (x x_3:Nat)=>O 0,iB:=fun (x x_3:Nat)=>O 0,uP:=fun (x:Nat)=>O 0,uL:=fun (x:Nat)=>O 0,uD:=fun (x:Nat)=>O 0 } v.n v.b.c x.m x.now v.dr v.x.n v.b.r 0 v.b.e) x.f) (U (∃(x_3:Rr),prO (Rv.mk { c with lenP:=fun (x:Nat)=>0,FC:=fun (x:Nat)=>0,iO:=fun (x x_4:Nat)=>O 0,iA:=fun (x x_4:Nat)=>O 0,iB:=fun (x x_4:Nat)=>O 0,uP:=fun (x:Nat)=>O 0,uL:=fun (x:Nat)=>O 0,uD:=fun (x:Nat)=>O 0 } v.n v.b.c x.m x.now v.dr v.x.n v.b.r 0 v.b.e) x.f x_3) (V.any Rr (prO (Rv.mk { c with lenP:=fun (x:Nat)=>0,FC:=fun (x:Nat)=>0,iO:=fun (x x_3:Nat)=>O 0,iA:=fun (x x_3:Nat)=>O 0,iB:=fun (x x_3:Nat)=>O 0,uP:=fun (x:Nat)=>O 0,uL:=fun (x:Nat)=>O 0,uD:=fun (x:Nat)=>O 0 } v.n v.b.c x.m x.now v.dr v.x.n v.b.r 0 v.b.e) x.f) fun (x_3:Rr)=>V.br x_3.b
 (nN [(6,.lt2 0 1 0 1)] (U (O 0<=O 0/\O 0<=O 0/\O 0<=(↑cf:Int)) (nN [(12,.lt2 0 1 0 1)] (V.br (!x_2.b == true) (U True (U (false=true) V.ok)) (nN (qPv3 (qE v.x.n::qE v.a.r::(1,.eq 0 0)::qE v.a.e::qPv13 v (qPv31 x_2 [(1,.le 1 1)]))) (qPv4 v x_2 (nN (qE x.now::qPv25 v.x (qPv8 v.x v (qPv32 v.x (qPv19 v [])))) (qPv34 x_3 x_2 (nN (qE x.now::qE v.x.n::qPv12 v [(1,.le 1 1)]) (qPv7 v x_3 x_2 (nN (qPv25 v.x (qPv9 v.x v (qPv32 v.x (qL v.x.n::qPv0 v.x [qL v.x.n])))) (qPv2 v.x v x_2 x (nN ((3,.lt2 0 1 0 1)::qPv13 v [qE x_2.m.ct,(1,.le 1 1)]) (qPv35 v x_2 x (V.br x_2.b
 (nN [(6,.lt2 0 1 0 1)] (V.br (x_2.p.co == x_3.c)
 (V.br (x_2.p.va == x_3.v)
 (qPvs0 c v x_2 x x_3)
 (qPv11 V.ok))
 (qPv11 V.ok)))
 (U (J1 x.s (XPv.mk x.s x_2.m x.now x_2.p x_2.B x_3.f)) (V.bad 400)))))))))))))))))
 (V.br (!x_2.b == false) (U True (U (false=true) V.ok)) (nN (qPv3 (qE v.x.n::qE v.a.r::(1,.eq 0 0)::qE v.a.e::qPv13 v (qPv31 x_2 [(1,.le 1 1)]))) (qPv4 v x_2 (nN (qE x.now::qPv25 v.x (qPv8 v.x v (qPv32 v.x (qPv19 v [])))) (qPv34 x_3 x_2 (nN (qE x.now::qE v.x.n::qPv12 v [(1,.le 1 1)]) (qPv7 v x_3 x_2 (nN (qPv25 v.x (qPv9 v.x v (qPv32 v.x (qL v.x.n::qPv0 v.x [qL v.x.n])))) (qPv2 v.x v x_2 x (nN ((3,.lt2 0 1 0 1)::qPv13 v [qE x_2.m.ct,(1,.le 1 1)]) (qPv35 v x_2 x (V.br x_2.b
 (nN [(6,.lt2 0 1 0 1)] (V.br (x_2.p.co == O 0)
 (V.br (x_2.p.va == O 0)
 (qPvs0 c v x_2 x x_3)
 (qPv11 V.ok))
 (qPv11 V.ok)))
 (U (J1 x.s (XPv.mk x.s x_2.m x.now x_2.p x_2.B x_3.f)) (nN (qPv13 v (qPv31 x_2 (qE v.a.c::qL v.n::qF v.n x_2.m.g::qPv23 c v []))) (qPv34 x_3 x_2 (nN (qPv16 x v (qE v.x.n::qPv15 v [qL v.n])) (U (∀(e:Nat),e<v.n->x_3.m.g e=x_2.m.g e) (nN (qPv16 x v [qE x_2.p.e,qE x_2.p.co,qE x_2.p.va,qE x_2.p.w,qE x_2.p.b,qE x_2.p.st,qE x_2.p.nx,qE x_2.B.a0,qE x_2.B.a1,qE x_2.B.a2,qE x_2.B.a3,qE x_2.B.a4,qE x_2.B.a5,qE x_2.B.a6,qE x_2.B.a7,qE x_2.B.a8,qE x_2.B.a9,qE x_2.B.a10,qE x_2.B.a11,qE x_2.B.a12,qE x_2.B.a13,qE x_2.B.a14,qE x_2.B.a15,qE cf,qE cf,(1,.le 1 1),qE x_3.f.ln,qE x_3.f.a,qE x_3.f.i,qE x_3.f.j,qE x_3.f.n,qE x_3.f.t]) V.ok))))))))))))))))))))))))))))))))
 (V.any XPv (J1 x.s) fun (x_2:XPv)=>nN (qPv27 v x_2 c (qE v.x.n::qPv30 v x_2 [qE cf,qE cf])) (qPv29 x_2 fun x_3=>V.br x_3
 (V.br (decide (x.s<(↑ln:Int)))
 (qPv22 x ln (nN [(1,.neI 3 0)] (V.br ((g (0+x.s.toNat)).tmod (O 3) == O 1)
 (qPv22 x ln (nN [(1,.neI 3 0)] (qPv22 x ln (nN ((1,.neI 7 0)::qE (i64.wrap ((g (0+x.s.toNat)).tdiv (O 3)))::qE (i64.wrap ((g (0+x.s.toNat)).tdiv (O 7)))::qPv3 (qPv27 v x_2 c (qE v.x.n::qPv15 v (qPv10 v x_2 (qPv6 (qPv6 [(1,.le 0 1)])))))) (U (∀(i:Nat),i<0->0<=v.x.n) (nN (qPv28 []) (U (v.n<=1000000/\okMw (O 1000000000) x_2.m) (U (∃(x:Mm),okMw (x_2.m.ct+O 1) x) (V.any Mm (okMw (x_2.m.ct+O 1)) fun (x_4:Mm)=>U (J2 x.s { x_2 with s:=x.s,m:=x_4 }) (nN (qPv13 v (qE x_4.lk::qE x_4.lc::qE x_4.lo::qE x_4.ln::qE x_4.ct::qE v.a.c::qL v.n::qF v.n x_4.g::qPv23 c v (qE x_4.lk::qE x_4.lc::qE x_4.lo::qE x_4.ln::qE x_4.ct::qPv16 x_2 v (qE v.x.n::qPv15 v (qL v.n::qF v.n x_4.g::qPv16 x_2 v (qPv17 x_2 (qE cf::qE cf::qPv20 x_2 []))))))) V.ok))))))))))
 (qPv33 J2 x x_2 v c (nN (qE v.x.n::qPv30 v x_2 (qE cf::qE cf::qPv20 x_2 [])) V.ok)))))
 (qPv33 J2 x x_2 v c (nN (qE v.x.n::qPv30 v x_2 (qE cf::qE cf::qPv20 x_2 [])) V.ok)))
 (V.any XPv (J2 x.s) fun (x_4:XPv)=>nN (qPv27 v x_4 c (qE v.x.n::qPv30 v x_4 [qE cf,qE cf])) (qPv29 x_4 fun x_5=>V.br x_5
 (V.br (decide (x.s<(↑ln:Int)))
 (qPv22 x ln (nN [(1,.neI 13 0)] (V.br ((g (0+x.s.toNat)).tmod (O 13) == O 5)
 (nN [(3,.lt2 0 1 0 1)] (U (J2 x.s { x_4 with s:=x.s,now:=i64.wrap (x_4.now+O 1) }) (nN (qPv26 v x_4 c (qPv5 x_4 (qE (i64.wrap (x_4.now+O 1))::qE v.dr::qE v.x.n::qPv15 v (qPv10 v x_4 (qE (i64.wrap (x_4.now+O 1))::qE v.dr::qPv17 x_4 (qE cf::qE cf::qPv20 x_4 [])))))) V.ok)))
 (qPv33 J2 x x_4 v c (nN (qE v.x.n::qPv30 v x_4 (qE cf::qE cf::qPv20 x_4 [])) V.ok)))))
 (qPv33 J2 x x_4 v c (nN (qE v.x.n::qPv30 v x_4 (qE cf::qE cf::qPv20 x_4 [])) V.ok)))
 (V.any XPv (J2 x.s) fun (x_6:XPv)=>V.br (x.s == O 2)
 (qPv18 I x_6 x (nN (qE (i64.wrap (x.s+O 1))::qPv27 v x_6 c (qE v.x.n::qPv30 v x_6 (qE cf::qE cf::qPv20 x_6 []))) V.ok))
 (qPv18 I x_6 x (nN (qE (i64.wrap (x.s+O 1))::qPv27 v x_6 c (qE v.x.n::qPv30 v x_6 (qE cf::qE cf::qPv20 x_6 []))) V.ok)))))))))
 (U True V.ok)))):=by kernel_rfl
def iPv(c:Cf)(v:Ev)(w:Int)(x:XPv):Prop:=rI x.s x.m/\relB c.W v.dr w x.pr x.A x.f
def jPv(c:Cf)(v:Ev)(w:Int)(b q:Int)(x:XPv):Prop:=rM b q x.m/\relB c.W v.dr w x.pr x.A x.f
abbrev yP(c:Cf):Ly:=⟨c.W,c.L,c.C,c.T,c.D,c.H,lS c,lE c,lB c,lQ c,lT c⟩
def keyP(c:Cf)(v:Ev)(w:Int)(x:XPv)(r:Ps)(z:Rr):Prop:=r.b=z.b/\r.m=z.m/\(r.m=x.m\/∃a,r.m=x.m.acc v.n 1 a (x.m.val v.n a))/\(r.b=true->r.p.e=true/\r.p.co=z.c/\r.p.va=z.v)/\(r.b=false->relB c.W v.dr w r.p r.B z.f)
def isRv(c:Cf)(v:Ev)(x:XPv)(rv:Rv):Prop:=(rv.c.W=c.W/\rv.c.C=c.C/\rv.c.H=c.H/\rv.c.L=c.L/\rv.c.T=c.T/\rv.c.D=c.D)/\rv.len=v.n/\rv.dr=v.dr/\rv.m=x.m
section
variable {c:Cf} {v:Ev} {w s s' now:Int} {x:XPv} {r r2:Ps} {z:Rr} {rv:Rv} {m:Mm} {n:Nat}
theorem pv_rr(hi:iPv c v w x):(∀j,j<16->0<=x.A.get j/\x.A.get j<=18446744073709551615)/\0<=x.f.i/\(x.pr.b=true->x.pr.st=dr v.dr c.W)/\0<=x.pr.nx/\(c.W<=16->x.pr.nx<=16/\x.f.i<=16):=by
 obtain⟨hA,hi0,hc⟩:=hi.2.2
 refine⟨hA,hi0,fun hb=>?_,?_,fun hW=>?_⟩
 ·rcases hc with⟨c1,-⟩|⟨-,-,c3,-⟩
  ·rw[c1]at hb;cases hb
  ·exact c3
 ·rcases hc with⟨-,c2,-⟩|⟨-,-,-,-,c5,-⟩<;>omega
 ·rcases hc with⟨-,c2,-,c4⟩|⟨-,-,-,-,c5,-,c7,-⟩<;>omega
theorem pv_pre(h:okMq c v)(hi:iPv c v w x):zc8 (yP c) x.pr x.A x.m:=by
 have hY:=h.1
 obtain⟨h1,h2,h3,h4,h5⟩:=pv_rr hi
 have hM:mW (yP c)=c.W:=by show min c.W 16=c.W;have:=hY.1;omega
 have hd:=dr_b (a:=v.dr) (n:=c.W) (by have:=hY.1;omega)
 refine⟨⟨hY.1.1,?_,?_⟩,fun hb=>?_,⟨h4,?_⟩,hi.1.2.1,h1⟩
 ·show 0<=4+c.H+c.C+c.W
  have h7:=hY.1;have h8:=hY.2.2.1;have h9:=hY.2.2.2.2.2
  omega
 ·show 4+c.H+c.C+c.W<=1000
  have h7:=hY.1;have h8:=hY.2.2.1;have h9:=hY.2.2.2.2.2
  omega
 ·rw[hM,h3 hb];exact hd
 ·have:=h5 hY.1.2;omega
theorem pv_prr(h:okMq c v)(hi:iPv c v w x)(hr:isRv c v x rv):zdg rv x.f:=by
 have hY:=h.1
 obtain⟨h1,h2,h3,h4,h5⟩:=pv_rr hi
 obtain⟨⟨e1,e2,e3,e4,e5,e6⟩,e7,e8,e9⟩:=hr
 refine⟨?_,⟨h2,?_⟩,by rw[e9];exact hi.1.2.1⟩
 ·rw[e1,e2,e3,e4,e5,e6];exact hY
 ·have:=h5 hY.1.2;omega
theorem pv_k(h:okMq c v)(hi:iPv c v w x)(h1:psO (yP c) v.n v.dr x.pr x.A x.m r)(h2:prO rv x.f z)(hr:isRv c v x rv):keyP c v w x r z:=by
 have hp:=pv_pre h hi
 obtain⟨⟨e1,e2,e3,e4,e5,e6⟩,e7,e8,e9⟩:=hr
 exact pv_step (y:=yP c) h.1.1 hp.1.2 hi.1.2.1 e1 e9 e7 e8 (fun u=>by rw[e1,e2,e3];rfl) hi.2 h1 h2
theorem prO_ex{f:Fp}:∃z,prO rv f z:=by
 by_cases h0:othP rv.c.W f.a=0
 ·exact⟨_,.inl ⟨h0,rfl⟩⟩
 ·by_cases h1:lftP rv.c.W (prI (xQ rv f))
  ·exact⟨_,.inr ⟨h0,(xG rv f).1,(xG rv f).2,_,_,_,rfl,rfl,rfl,rfl,.inl ⟨h1,rfl⟩⟩⟩
  ·by_cases h2:(prI (xQ rv f)).j<0
   ·exact⟨_,.inr ⟨h0,(xG rv f).1,(xG rv f).2,_,_,_,rfl,rfl,rfl,rfl,.inr ⟨h1,.inl ⟨h2,rfl⟩⟩⟩⟩
   ·exact⟨_,.inr ⟨h0,(xG rv f).1,(xG rv f).2,_,_,_,rfl,rfl,rfl,rfl,.inr ⟨h1,.inr ⟨h2,rfl⟩⟩⟩⟩
theorem pv_0(h:okMq c v):iPv c v w ⟨O 0,v.m,v.now,⟨false,O 0,O 0,w,false,O 0,O 0⟩,⟨O 0,O 0,O 0,O 0,O 0,O 0,O 0,O 0,O 0,O 0,O 0,O 0,O 0,O 0,O 0,O 0⟩,⟨O 1,w,O 0,O 0,O 0,O 0⟩⟩:=by
 refine⟨q_m0 h,⟨rfl,rfl,rfl,rfl,rfl⟩,fun j hj=>?_,Int.le_refl 0,.inl ⟨rfl,rfl,rfl,rfl⟩⟩
 have e:(A16.mk (O 0) (O 0) (O 0) (O 0) (O 0) (O 0) (O 0) (O 0) (O 0) (O 0) (O 0) (O 0) (O 0) (O 0) (O 0) (O 0)).get j=0:=by
  rcases(show j=0\/j=1\/j=2\/j=3\/j=4\/j=5\/j=6\/j=7\/j=8\/j=9\/j=10\/j=11\/j=12\/j=13\/j=14\/j=15 by omega) with rfl|rfl|rfl|rfl|rfl|rfl|rfl|rfl|rfl|rfl|rfl|rfl|rfl|rfl|rfl|rfl<;>rfl
 show 0<=A16.get _ j/\_
 rw[e]
 exact⟨Int.le_refl 0,by decide⟩
theorem pv_co(hi:iPv c v w x)(h:(x.pr.co != O 0)=true):False:=by
 have:x.pr.co=0:=hi.2.1.2.1
 rw[this]at h;cases h
theorem pv_va(hi:iPv c v w x)(h:(x.pr.va != O 0)=true):False:=by
 have:x.pr.va=0:=hi.2.1.2.2.1
 rw[this]at h;cases h
theorem pv_m1(k:keyP c v w x r z)(hz:z.b=true)(hb:(!r.b == true)=true):False:=by
 rw[k.1,hz]at hb;cases hb
theorem pv_m2(k:keyP c v w x r z)(hz:z.b=false)(hb:(!r.b == false)=true):False:=by
 rw[k.1,hz]at hb;cases hb
theorem pv_m3(k:keyP c v w x r z)(hz:z.b=true)(hb:r.b=false):False:=by
 rw[k.1,hz]at hb;cases hb
theorem pv_m4(k:keyP c v w x r z)(hz:z.b=false)(hb:r.b=true):False:=by
 rw[k.1,hz]at hb;cases hb
theorem pv_c(k:keyP c v w x r z)(hz:z.b=true)(h:(r.p.co == z.c)=false):False:=by
 rw[(k.2.2.2.1 (by rw[k.1,hz])).2.1]at h
 simp at h
theorem pv_v(k:keyP c v w x r z)(hz:z.b=true)(h:(r.p.va == z.v)=false):False:=by
 rw[(k.2.2.2.1 (by rw[k.1,hz])).2.2]at h
 simp at h
theorem pv_2nd(k:keyP c v w x r z)(hz:z.b=true)(h:psO (yP c) v.n v.dr r.p r.B r.m r2):r2.b=true/\r2.m=z.m:=by
 have:=h.1 (k.2.2.2.1 (by rw[k.1,hz])).1
 rw[this]
 exact⟨rfl,k.2.1⟩
theorem pv_nb{b:Bool}(h:b=true)(h2:b=false):False:=by rw[h]at h2;cases h2
theorem pv_p2(k:keyP c v w x r z)(hz:z.b=true)(he:r.p.e=false):zc8 (yP c) r.p r.B r.m:=by
 rw[(k.2.2.2.1 (by rw[k.1,hz])).1]at he;cases he
theorem pv_ct(hi:iPv c v w x)(hs:decide (x.s<O 30)=true)(k:keyP c v w x r z):decide (r.m.ct>i64.wrap (x.m.ct+O 1))=false:=by
 rcases k.2.2.1 with e|⟨a,e⟩
 ·rw[e];exact q_ctg hi.1 hs (by decide)
 ·exact q_ctf hi.1 hs (by decide) e
theorem pv_j(hi:iPv c v w x)(hs:decide (x.s<O 30)=true)(k:keyP c v w x r z)(hb:r.b=false):jPv c v w 1 x.s ⟨x.s,r.m,now,r.p,r.B,z.f⟩:=by
 refine⟨?_,k.2.2.2.2 hb⟩
 rcases k.2.2.1 with e|⟨a,e⟩
 ·show rM 1 x.s r.m
  rw[e];exact q_j0 hi.1 hs (by decide)
 ·exact q_j hi.1 hs (by decide) e (q_v hi.1)
theorem pv_jz(hi:iPv c v w x)(hs:decide (x.s<O 30)=true)(k:keyP c v w x r z)(hz:z.b=false):jPv c v w 1 x.s ⟨x.s,r.m,now,r.p,r.B,z.f⟩:=pv_j hi hs k (by rw[k.1,hz])
theorem pv_2(h:jPv c v w 1 s x):jPv c v w 2 s ⟨s',x.m,now,x.pr,x.A,x.f⟩:=⟨q_2 h.1,h.2⟩
theorem pv_2d(h:jPv c v w 1 s x)(hm:okMw (x.m.ct+O 1) m):jPv c v w 2 s ⟨s',m,now,x.pr,x.A,x.f⟩:=⟨q_2d h.1 hm,h.2⟩
theorem pv_33(h:jPv c v w 2 s x):jPv c v w 2 s ⟨s',x.m,now,x.pr,x.A,x.f⟩:=⟨h.1,h.2⟩
theorem pv_i(h:jPv c v w 2 s x):iPv c v w ⟨i64.wrap (s+O 1),x.m,now,x.pr,x.A,x.f⟩:=⟨q_i h.1,h.2⟩
end
theorem vhPv{c:Cf}{v:Ev}{w b d:Int}{cf ln lc:Nat}{g:Nat->Int}(h:okMq c v):zad (vPv c v w b d cf ln lc g (iPv c v w) (jPv c v w 1) (jPv c v w 2)):=by
 refine zad.pr (vPv_eq ..) ?_
 (with_reducible repeat' first|exact V.okI|refine V.brT ?_|refine V.brF ?_|refine V.brI ?_ ?_|refine V.anyI ?_|refine nN_h rfl ?_|refine V.needI ?_ ?_|intro _)
 all_goals try have key:=pv_k h ‹_› ‹_› ‹_› ⟨⟨rfl,rfl,rfl,rfl,rfl,rfl⟩,rfl,rfl,rfl⟩
 all_goals try have key2:=pv_2nd key ‹_› ‹_›
 all_goals first
  | exact True.intro
  | exact Nat.zero_le _
  | exact q_cm h
  | exact q_ka h
  | exact q_kb h
  | exact pv_0 h
  | exact psO_ex
  | exact prO_ex
  | exact pv_pre h ‹_›
  | exact pv_p2 key ‹_› ‹_›
  | exact pv_prr h ‹_› ⟨⟨rfl,rfl,rfl,rfl,rfl,rfl⟩,rfl,rfl,rfl⟩
  | exact(pv_co ‹_› ‹_›).elim
  | exact(pv_va ‹_› ‹_›).elim
  | exact(pv_m1 key ‹_› ‹_›).elim
  | exact(pv_m2 key ‹_› ‹_›).elim
  | exact(pv_m3 key ‹_› ‹_›).elim
  | exact(pv_m4 key ‹_› ‹_›).elim
  | exact(pv_c key ‹_› ‹_›).elim
  | exact(pv_v key ‹_› ‹_›).elim
  | exact(pv_nb key2.1 ‹_›).elim
  | exact(congrArg Mm.lk key2.2)
  | exact(congrArg Mm.lc key2.2)
  | exact(congrArg Mm.lo key2.2)
  | exact(congrArg Mm.ln key2.2)
  | exact(congrArg Mm.ct key2.2)
  | exact(congrArg (fun m=>Mm.g m _) key2.2)
  | exact(congrArg Mm.lk key2.2).symm
  | exact(congrArg Mm.lc key2.2).symm
  | exact(congrArg Mm.lo key2.2).symm
  | exact(congrArg Mm.ln key2.2).symm
  | exact(congrArg Mm.ct key2.2).symm
  | exact(congrArg (fun m=>Mm.g m _) key2.2).symm
  | exact(congrArg Mm.lk key.2.1).symm
  | exact(congrArg Mm.lc key.2.1).symm
  | exact(congrArg Mm.lo key.2.1).symm
  | exact(congrArg Mm.ln key.2.1).symm
  | exact(congrArg Mm.ct key.2.1).symm
  | exact(congrArg (fun m=>Mm.g m _) key.2.1).symm
  | exact congrArg Mm.lk key.2.1
  | exact congrArg Mm.lc key.2.1
  | exact congrArg Mm.lo key.2.1
  | exact congrArg Mm.ln key.2.1
  | exact congrArg Mm.ct key.2.1
  | exact congrArg (fun m=>Mm.g m _) key.2.1
  | exact pv_ct ‹_› ‹_› key
  | exact pv_j ‹_› ‹_› key ‹_›
  | exact pv_jz ‹_› ‹_› key ‹_›
  | exact pv_2 ‹_›
  | exact pv_2d ‹_› ‹_›
  | exact pv_33 ‹_›
  | exact pv_i ‹_›
  | exact q_mu (And.left ‹_›) ‹_› (by decide)
  | exact q_di (q_n h) (And.left ‹_›)
  | exact q_ex (And.left ‹_›)
  | exact q_r (And.left ‹_›) ‹_›
  | exact q_r2 (And.left ‹_›) ‹_›
  | exact⟨h.1,rfl,by decide,by decide⟩
  | with_reducible exact q_nt (by with_reducible assumption)
  | with_reducible exact q_nf (by with_reducible assumption)
  | decide
  | exact Nat.zero_lt_one
  | exact Int.le_refl 0
  | exact⟨v.m,trivial⟩
  | exact⟨by decide,by decide,Int.natCast_nonneg _⟩
  | trace_state
noncomputable section
def cPv:List SV->Hp->Out (SV×Hp):=cMq 21 30 pvX hPv okMq
theorem cPv_ok:zab P fMt cPv:=cMq_ok fun c v a b d cf ln lc g=>zai conPv_ok fun h=>vhPv h
end
end Go.Proofs.YtabiechfpefjhaaGreat.En
