/- The two environments behind any script, no cell changed; what is asked. -/
import Derived.Test.YtfkdlkidflgalaaGreatMEg
import Derived.Test.YtfkdlkidflgalaaGreatMW
import Derived.Test.YtfkdlkidflgalaaGreatMV
set_option maxHeartbeats 64000000
set_option linter.unusedVariables false
set_option linter.unusedSimpArgs false
set_option maxRecDepth 100000
open Go.IntKind (i64 u64)
open Int renaming ofNat -> O
open Nat renaming le_refl -> Z
open Go.Proofs.YtfkdlkidflgalaaGreat.Sx.V renaming need -> U
namespace Go.Proofs.YtfkdlkidflgalaaGreat.En
open Go Go.RowKit Sx Cn Dc Ck Vc Md
noncomputable section
def argEvN (c:Cf) (n cap:Nat):List SV:=[argC c,.c (slK 3 2 n cap),.c .nils]
def hInN (c:Cf) (n:Nat) (ka va:Nat->Int):HL:=hC c++[(3,scV n ka va),(4,dum 1)]
def vEvN (c:Cf) (n cap:Nat) (ka va:Nat->Int) (I1:XIm->Prop) (I3:Int->XTk->Prop) (Φ:Ev->Prop):V:=verF P conEvS 6 8 fEv []
 (.loop XIm [.nilCell (tmK 10) 20 24 5 (fun _=>noEv),.nilCell (tmK 11) 25 24 5 (fun _=>noEv)] (laMm 13 I1 fun x=>ncN c - x.i.toNat) .nil
  (.unroll [] (.loop XTk [] (laTk I3) .nil .nil)))
 (argEvN c n cap) ⟨hInN c n ka va,5,fun _=>True⟩ (finV (X:=Ev) 5 20 rdEvs LEv Φ (fun _=>svEvS) (hEvS c))
end
abbrev qVn0 (l:List (Nat×P0)):List (Nat×P0):=qF 1 (fun (e:Nat)=>O 0)::qF 1 (fun (e:Nat)=>O 0)::l
abbrev qVn1 (a0:Rk) (a1:Nat×(Nat->Nat)) (k:V):V:=U (∀ (i:Nat),i < a0.n->a0.kl i<=upto a0.n a0.kl i/\a0.kl i<=a1.snd i) (nN [(1,.pf (∀ (i e:Nat),i < a0.n/\e < a0.kl i->a0.kd i e=a0.kd i e) (by intros; rfl))] k)
abbrev qVn2 (a0:Nat×Int) (a1:Mm) (a2:XTk) (a3:Rk) (a4:Ev->Prop) (a5:Cf×Nat) (a6:Cf) (a7:Ee) (a8 a9:Nat×(Nat->Nat)) (k:V):V:=U (okCm (Cm.mk a0.fst a1 a2.now a3 0 (Evs.mk (fun (i:Nat)=>O 0) (fun (i:Nat)=>O 0) (fun (i:Nat)=>O 0) (fun (i:Nat)=>O 0) fun (i:Nat)=>O 0))) (U (a4 (Ev.mk { a5.fst with W:=a6.W,L:=a6.L,C:=a6.C,T:=a6.T,D:=a6.D,H:=a6.H,B:=a6.B,A:=a6.A,P:=a6.P } a0.fst a1 a3 a2.now a7.dr (Rm.mk a0.fst a8.fst a8.snd 0) (Rm.mk (ncN a6) a9.fst a9.snd 0))) k)
abbrev qVn3 (l:List (Nat×P0)):List (Nat×P0):=qF 0 (fun (e:Nat)=>O 0)::qF 0 (fun (e:Nat)=>O 0)::l
abbrev qVn4 (a0:Rk) (l:List (Nat×P0)):List (Nat×P0):=(1,.pf (∀ (i e:Nat),i=0/\e < a0.n->a0.p e=a0.p e) (by intros; rfl))::(1,.pf (∀ (i e:Nat),i=0/\e < a0.n->a0.pa e=a0.pa e) (by intros; rfl))::(1,.pf (∀ (i e:Nat),i=0/\e < a0.n->a0.pc e=a0.pc e) (by intros; rfl))::l
abbrev qVn5 (a0:Cf×Nat) (k:V):V:=U (∀ (i:Nat),gd a0.fst.nP a0.fst.FC i=gd a0.fst.nP a0.fst.FC i\/gd a0.fst.nP a0.fst.FC i=0) (U (∀ (i:Nat),gd a0.fst.nP a0.fst.lenP i<=gd a0.fst.nP a0.fst.FC i/\gd a0.fst.nP a0.fst.lenP i<=gd a0.fst.nP a0.fst.lenP i) k)
abbrev qVn6 (a0:Cf) (k:V):V:=U (∀ (i:Nat),upto a0.T.toNat (fun (i:Nat)=>0) i<=0/\upto a0.T.toNat (fun (i:Nat)=>0) i<=upto a0.T.toNat (fun (x:Nat)=>0) i) (nN [(1,.pf (∀ (i e:Nat),e < upto a0.T.toNat (fun (i:Nat)=>0) i->O 0=O 0) (by intros; rfl))] k)
abbrev qVn7 (a0:Cf) (k:V):V:=U (ncN a0<=ncN a0) (nN [(1,.pf (∀ (e:Nat),e < ncN a0->O 0=O 0) (by intros; rfl))] k)
abbrev qVn8 (a0:Int->XTk->Prop) (a1:Ee) (a2:XTk) (k:V):V:=U (a0 a1.now (XTk.mk (i64.wrap (a2.i+O 1)) (i64.wrap (a2.now+O 1)))) (U ((a1.now - i64.wrap (a2.i+O 1)).toNat < (a1.now - a2.i).toNat) k)
abbrev qVn9 (a0:Cf) (l:List (Nat×P0)):List (Nat×P0):=qF a0.T.toNat (fun (e:Nat)=>O 0)::qF a0.T.toNat (fun (e:Nat)=>-O 1)::l
abbrev qVn10 (a0:Nat×Int) (a1:Cf) (a2:XIm->Prop) (k:V):V:=V.br ((↑a0.fst:Int) != (↑(ncN a1):Int)) (V.bad 412) (U (a2 (XIm.mk (O 0) (Mm.mk (fun (e:Nat)=>O 0) (O 0) (O 0) (O 0) (O 0) (O 0)))) k)
abbrev qVn11 (a0:Rk) (l:List (Nat×P0)):List (Nat×P0):=(1,.pf (∀ (i e:Nat),i < 1/\e < a0.n->a0.pa e=a0.pa e) (by intros; rfl))::(1,.pf (∀ (i e:Nat),i < 1/\e < a0.n->a0.pc e=a0.pc e) (by intros; rfl))::l
abbrev qVn12 (l:List (Nat×P0)):List (Nat×P0):=qVn0 (qF 1 (fun (e:Nat)=>O 0)::l)
abbrev qVn13 (a0:Rk) (l:List (Nat×P0)):List (Nat×P0):=(1,.pf (∀ (i:Nat),i < 1->a0.n<=a0.n) (by intros; exact Z _))::(1,.pf (∀ (i e:Nat),i < 1/\e < a0.n->a0.p e=a0.p e) (by intros; rfl))::l
abbrev qVn14 (a0:Rk) (a1:Ee) (l:List (Nat×P0)):List (Nat×P0):=(1,.pf (∀ (i e:Nat),i=0/\e < a0.n->a1.kc e=a1.kc e) (by intros; rfl))::(1,.pf (∀ (i e:Nat),i=0/\e < a0.n->a0.st e=a0.st e) (by intros; rfl))::l
abbrev qVn15 (a0:Cf) (k:(Cf×Nat)->V):V:=U (∃ (x:Cf×Nat),IsCl a0 x.fst/\a0.T.toNat<=x.snd) (V.any (Cf×Nat) (fun (x:Cf×Nat)=>IsCl a0 x.fst/\a0.T.toNat<=x.snd) fun (v0:Cf×Nat)=>k v0)
abbrev qVn16 (a0:Mm) (a1:Cf) (a2:XIm) (a3:Mm) (k:Mm->V):V:=nN [qX (a0.acc (ncN a1) (O 2) a2.i (a3.g (0+a2.i.toNat)))] (V.any Mm (fun (m':Mm)=>m'=a0.acc (ncN a1) (O 2) a2.i (a3.g (0+a2.i.toNat))) fun (v0:Mm)=>k v0)
abbrev qVn17 (a0:Mm) (a1:Nat×Int) (a2:XIm) (a3:Mm) (k:Mm->V):V:=nN [qX (a0.acc a1.fst (O 2) a2.i (a3.g (0+a2.i.toNat)))] (V.any Mm (fun (m':Mm)=>m'=a0.acc a1.fst (O 2) a2.i (a3.g (0+a2.i.toNat))) fun (v0:Mm)=>k v0)
abbrev qVn18 (a0:Nat) (a1:Nat->Int) (l:List (Nat×P0)):List (Nat×P0):=(1,.pf (∀ (i:Nat),i < 1->a0<=a0) (by intros; exact Z _))::(1,.pf (∀ (i e:Nat),i < 1/\e < a0->a1 e=a1 e) (by intros; rfl))::l
abbrev qVn19 (a0:Nat×Int) (a1:Mm) (k:V):V:=U (a0.fst<=a0.fst/\a0.fst<=a0.fst) (nN [(1,.pf (∀ (i e:Nat),i=0/\e < a0.fst->a1.g e=a1.g e) (by intros; rfl))] k)
abbrev qVn20 (a0:Cf) (k:(Nat×Int)->V):V:=nN [(1,.pf (∃ (x:Nat×Int),x=(ncN a0,lT a0)) ⟨_,rfl⟩)] (V.any (Nat×Int) (fun (q:Nat×Int)=>q=(ncN a0,lT a0)) fun (v0:Nat×Int)=>k v0)
abbrev qVn21 (a0:Cf×Nat) (l:List (Nat×P0)):List (Nat×P0):=(1,.pf (∀ (i e:Nat),e < gd a0.fst.nP a0.fst.lenP i->a0.fst.iO i e=a0.fst.iO i e) (by intros; rfl))::(1,.pf (∀ (i e:Nat),e < gd a0.fst.nP a0.fst.lenP i->a0.fst.iA i e=a0.fst.iA i e) (by intros; rfl))::(1,.pf (∀ (i e:Nat),e < gd a0.fst.nP a0.fst.lenP i->a0.fst.iB i e=a0.fst.iB i e) (by intros; rfl))::l
abbrev qVn22 (a0:Nat×Int) (a1:Cf) (a2:Mm) (k:V):V:=U (a0.fst<=ncN a1/\a0.fst<=ncN a1) (nN [(1,.pf (∀ (i e:Nat),i=0/\e < a0.fst->a2.g e=a2.g e) (by intros; rfl))] k)
abbrev qVn23 (a0:Mm) (l:List (Nat×P0)):List (Nat×P0):=qE a0.lk::qE a0.lc::qE a0.lo::qE a0.ln::qE a0.ct::l
abbrev zdl (l:List (Nat×P0)):List (Nat×P0):=qVn0 (qVn0 l)
abbrev qVn25 (a0:Rk) (a1:Ee) (l:List (Nat×P0)):List (Nat×P0):=(1,.pf (∀ (i e:Nat),i < 1/\e < a0.n->a0.kl e=a0.kl e) (by intros; rfl))::(1,.pf (∀ (i e:Nat),i < 1/\e < a0.n->a1.kc e=a1.kc e) (by intros; rfl))::(1,.pf (∀ (i e:Nat),i < 1/\e < a0.n->a0.st e=a0.st e) (by intros; rfl))::l
abbrev qVn26 (a0:Cf) (a1:Mm) (k:V):V:=U (ncN a0<=ncN a0) (nN [(1,.pf (∀ (e:Nat),e < ncN a0->a1.g e=a1.g e) (by intros; rfl))] k)
abbrev qVn27 (l:List (Nat×P0)):List (Nat×P0):=(1,.le 0 1)::(1,.pf (∀ (i:Nat),i < 0->0<=0) (by intros; exact Z _))::l
abbrev qVn28 (a0:Cf) (l:List (Nat×P0)):List (Nat×P0):=(2,.eq 0 0)::qE (ncN a0)::l
abbrev qVn29 (a0:XTk) (l:List (Nat×P0)):List (Nat×P0):=qE (i64.wrap (a0.i+O 1))::qE (i64.wrap (a0.now+O 1))::l
abbrev qVn30 (a0:Cf) (k:Nat->V):V:=U (∃ (x:Nat),a0.T.toNat<=x) (V.any Nat (fun (x:Nat)=>a0.T.toNat<=x) fun (v0:Nat)=>k v0)
abbrev qVn31 (a0:Nat×Int) (l:List (Nat×P0)):List (Nat×P0):=qE a0.fst::qE a0.fst::l
abbrev qVn32 (a0:Rk) (l:List (Nat×P0)):List (Nat×P0):=(1,.pf (∀ (i e:Nat),i < 1/\e < a0.n->a0.lf e=a0.lf e) (by intros; rfl))::(1,.pf (∀ (i e:Nat),i < 1/\e < a0.n->a0.wt e=a0.wt e) (by intros; rfl))::(1,.pf (∀ (i e:Nat),i < 1/\e < a0.n->e=e) (by intros; rfl))::l
abbrev qVn33 (a0:Cf) (l:List (Nat×P0)):List (Nat×P0):=qE a0.W::qE a0.L::qE a0.C::qE a0.T::qE a0.D::qE a0.H::qE a0.B::qE a0.A::qE a0.P::qE a0.nP::qE a0.rc::qE a0.nU::qE a0.cu::l
abbrev qVn34 (l:List (Nat×P0)):List (Nat×P0):=qF 1 (fun (e:Nat)=>O 26)::qF 1 (fun (e:Nat)=>O 1)::l
abbrev qVn35 (a0:Cf) (k:V):V:=nN [qF a0.T.toNat (fun (e:Nat)=>false)] (U (∀ (i:Nat),0=0\/0=0) k)
abbrev qVn36 (a0:Nat) (a1:Nat->Int) (l:List (Nat×P0)):List (Nat×P0):=(1,.pf (∀ (i e:Nat),i < 1/\e < a0->a1 e=a1 e) (by intros; rfl))::(1,.le 1 1)::l
abbrev qVn37 (a0:Int->XTk->Prop) (a1:Ee) (k:V):V:=nN [(16,.lt2 0 1 0 1)] (U (a0 a1.now (XTk.mk (O 0) (O 0))) k)
abbrev qVn38 (a0:Cf) (k:Ee->V):V:=U (∃ (x:Ee),okEe 900000 a0 x) (V.any Ee (okEe 900000 a0) fun (v0:Ee)=>k v0)
abbrev qVn39 (a0:Nat×Int) (l:List (Nat×P0)):List (Nat×P0):=qE a0.fst::qL a0.fst::l
abbrev qVn40 (a0:Cf) (a1 a2:Mm) (k:V):V:=U (ncN a0<=ncN a0) (U (∀ (e:Nat),e < ncN a0->a1.g e=a2.g e) k)
abbrev qVn41 (a0:Rk) (l:List (Nat×P0)):List (Nat×P0):=(1,.pf (∀ (i e:Nat),i=0/\e < a0.n->a0.lf e=a0.lf e) (by intros; rfl))::(1,.pf (∀ (i e:Nat),i=0/\e < a0.n->a0.wt e=a0.wt e) (by intros; rfl))::(1,.pf (∀ (i e:Nat),i=0/\e < a0.n->e=e) (by intros; rfl))::(1,.pf (∀ (i e:Nat),i=0/\e < a0.n->a0.kl e=a0.kl e) (by intros; rfl))::l
abbrev qVn42 (a0:Cf) (a1:Nat×Int) (k:V):V:=U (ncN a0=a1.fst) (nN [qE (ncN a0)] k)
abbrev qVn43 (a0:Cf) (l:List (Nat×P0)):List (Nat×P0):=qVn33 a0 (qE (ncN a0)::qE (ncN a0)::l)
abbrev qVn44 (a0:Cf) (k:V):V:=nN [(1,.le 0 1)] (U (∀ (i:Nat),i < 0->0<=a0.T.toNat) k)
abbrev qVn45 (a0:Nat×(Nat->Nat)) (l:List (Nat×P0)):List (Nat×P0):=qE a0.fst::(2,.eq 0 0)::l
abbrev qVn46 (a0:Cf) (k:V):V:=nN [(1,.le 0 1)] (U (∀ (i:Nat),i < 0->0<=a0.nP) k)
abbrev qVn47 (a0:Cf) (k:V):V:=nN [(1,.le 0 1)] (U (∀ (i:Nat),i < 0->0<=a0.nU) k)
abbrev qVn48 (a0:Rk) (a1:Xn4) (k:V):V:=U (a0.n<=a0.n/\a0.n<=a1.rc) (nN (qVn4 a0 []) k)
abbrev qVn49 (a0:Mm) (a1:Ee) (a2:XTk) (k:V):V:=nN (qVn23 a0 []) (U (a1.now=a2.now) k)
abbrev qVn50 (a0:Cf) (l:List (Nat×P0)):List (Nat×P0):=qVn9 a0 (qF a0.T.toNat (fun (e:Nat)=>O 0)::l)
abbrev qVn51 (a0:Nat×Int) (a1:Mm) (l:List (Nat×P0)):List (Nat×P0):=qVn31 a0 (qVn23 a1 (qVn39 a0 (qF a0.fst a1.g::l)))
abbrev qVn52 (a0:Nat×Int) (l:List (Nat×P0)):List (Nat×P0):=qVn39 a0 (qF a0.fst (fun (e:Nat)=>O 0)::l)
abbrev qVn53 (a0:Cf) (l:List (Nat×P0)):List (Nat×P0):=qVn12 (qF 1 (fun (e:Nat)=>(↑0:Int).tmod a0.T)::l)
abbrev qVn54 (l:List (Nat×P0)):List (Nat×P0):=(2,.eq 1 1)::qE false::(2,.eqI 0 0)::(1,.eq 1 1)::(1,.le 1 1)::l
abbrev qVn55 (k:V):V:=nN [qF 1 (fun (e:Nat)=>e),qF 1 (fun (e:Nat)=>0),qF 1 (fun (e:Nat)=>0)] (U (∀ (i:Nat),0=0\/0=0) (U (∀ (i:Nat),upto 1 (fun (e:Nat)=>0) i<=0/\upto 1 (fun (e:Nat)=>0) i<=upto 1 (fun (x:Nat)=>0) i) (nN [(1,.pf (∀ (i e:Nat),e < upto 1 (fun (e:Nat)=>0) i->O 0=O 0) (by intros; rfl))] k)))
abbrev qVn56 (a0:Cf) (l:List (Nat×P0)):List (Nat×P0):=(2,.eqI 0 0)::qE a0.T.toNat::l
abbrev qVn57 (l:List (Nat×P0)):List (Nat×P0):=zdl (qF 1 (fun (e:Nat)=>(↑0:Int))::l)
abbrev qVn58 (a0:Cf) (l:List (Nat×P0)):List (Nat×P0):=qVn33 a0 ((1,.le 1 1)::l)
abbrev qVn59 (l:List (Nat×P0)):List (Nat×P0):=(1,.le 1 1)::(1,.le2 0 0 0 0)::(5,.pf (∀ (i e:Nat),i=0/\e < 0->O 0=O 0) (by intros; rfl))::l
abbrev qVn60 (a0 a1:Mm) (k:V):V:=U (a0.lk=a1.lk) (U (a0.lc=a1.lc) k)
abbrev qVn61 (a0:Cf) (l:List (Nat×P0)):List (Nat×P0):=(1,.pf (∀ (i:Nat),i < 1->a0.nP<=a0.nP) (by intros; exact Z _))::(1,.pf (∀ (i e:Nat),i < 1/\e < a0.nP->e=e) (by intros; rfl))::(1,.pf (∀ (i e:Nat),i < 1/\e < a0.nP->a0.lenP e=a0.lenP e) (by intros; rfl))::(1,.pf (∀ (i e:Nat),i < 1/\e < a0.nP->a0.FC e=a0.FC e) (by intros; rfl))::(1,.le 1 1)::(1,.pf (∀ (i:Nat),i < 1->a0.nU<=a0.nU) (by intros; exact Z _))::(1,.pf (∀ (i e:Nat),i < 1/\e < a0.nU->a0.uP e=a0.uP e) (by intros; rfl))::(1,.pf (∀ (i e:Nat),i < 1/\e < a0.nU->a0.uL e=a0.uL e) (by intros; rfl))::(1,.pf (∀ (i e:Nat),i < 1/\e < a0.nU->a0.uD e=a0.uD e) (by intros; rfl))::qL a0.nP::(1,.pf (∀ (i:Nat),i < a0.nP->a0.lenP i<=a0.lenP i) (by intros; exact Z _))::(1,.pf (∀ (i e:Nat),i < a0.nP/\e < a0.lenP i->a0.iO i e=a0.iO i e) (by intros; rfl))::(1,.pf (∀ (i e:Nat),i < a0.nP/\e < a0.lenP i->a0.iA i e=a0.iA i e) (by intros; rfl))::(1,.pf (∀ (i e:Nat),i < a0.nP/\e < a0.lenP i->a0.iB i e=a0.iB i e) (by intros; rfl))::l
abbrev qVn62 (a0:Cf) (k:V):V:=nN (qVn61 a0 []) (U (errE a0=O 0) k)
abbrev qVn63 (a0:Cf) (l:List (Nat×P0)):List (Nat×P0):=qF a0.T.toNat (fun (e:Nat)=>e)::qF a0.T.toNat (fun (e:Nat)=>0)::qF a0.T.toNat (fun (e:Nat)=>0)::l
abbrev qVn64 (a0:XIm->Prop) (a1:XIm) (a2:Mm) (a3:Cf) (k:V):V:=U (a0 (XIm.mk (i64.wrap (a1.i+O 1)) a2)) (U (ncN a3 - (i64.wrap (a1.i+O 1)).toNat < ncN a3 - a1.i.toNat) (nN [qE (i64.wrap (a1.i+O 1))] k))
abbrev qVn65 (l:List (Nat×P0)):List (Nat×P0):=qVn54 (qF 1 (fun (e:Nat)=>O 25)::qF 1 (fun (e:Nat)=>O 1)::l)
abbrev qVn66 (k:V):V:=nN (zdl (qVn0 [])) (qVn55 k)
abbrev qVn67 (a0:Rk) (a1:Nat×(Nat->Nat)) (k:V):V:=nN [(1,.le 1 1)] (U (a0.n<=a0.n/\a0.n<=a1.fst) (nN (qVn4 a0 (qVn41 a0 [(1,.pf (∀ (i e:Nat),i=0/\e < a0.n->a1.snd e=a1.snd e) (by intros; rfl)),(1,.pf (∀ (i e:Nat),i=0/\e < a0.n->a0.st e=a0.st e) (by intros; rfl))])) k))
abbrev qVn68 (a0:Cf) (l:List (Nat×P0)):List (Nat×P0):=qVn12 (qF 1 (fun (e:Nat)=>(↑1:Int).tmod a0.T)::l)
abbrev qVn69 (l:List (Nat×P0)):List (Nat×P0):=zdl (qF 1 (fun (e:Nat)=>(↑1:Int))::l)
abbrev qVn70 (a0:Xn4) (l:List (Nat×P0)):List (Nat×P0):=qE a0.rc::(1,.le 1 1)::l
abbrev qVn71 (a0:Cf) (l:List (Nat×P0)):List (Nat×P0):=qVn43 a0 ((7,.eqI 0 0)::qE a0.T.toNat::l)
abbrev qVn72 (a0:Cf×Nat) (l:List (Nat×P0)):List (Nat×P0):=qF a0.fst.nP (fun (e:Nat)=>e)::qF a0.fst.nP a0.fst.lenP::qF a0.fst.nP a0.fst.FC::l
abbrev qVn73 (a0:Cf×Nat) (l:List (Nat×P0)):List (Nat×P0):=qF a0.fst.nU a0.fst.uP::qF a0.fst.nU a0.fst.uL::qF a0.fst.nU a0.fst.uD::l
abbrev qVn74 (l:List (Nat×P0)):List (Nat×P0):=(1,.eq 0 0)::(1,.le 0 0)::qVn3 (qVn3 (qF 0 (fun (e:Nat)=>O 0)::l))
abbrev qVn75 (a0 a1:Mm) (k:V):V:=U (a0.lo=a1.lo) (U (a0.ln=a1.ln) (U (a0.ct=a1.ct) k))
abbrev qVn76 (a0:XIm) (a1:Cf) (a2:Mm) (k:V):V:=U (O 0<=a0.i/\a0.i < (↑(ncN a1):Int)) (U (0 < 1/\0+a0.i.toNat < ncN a1) (U (0 < 1/\0+a0.i.toNat < ncN a1) (nN [qE a0.i,qE (a2.g (0+a0.i.toNat))] k)))
abbrev qVn77 (a0:Int->XTk->Prop) (a1:Ee) (k:XTk->V):V:=V.any XTk (a0 a1.now) fun (v0:XTk)=>nN [(3,.lt2 0 1 0 1)] (k v0)
abbrev qVn78 (a0:Rk) (a1:Ee) (k:(Nat×(Nat->Nat))->V):V:=U (∀ (i:Nat),i < a0.n->a0.kl i<=upto a0.n a0.kl i/\a0.kl i<=a1.kc i) (nN [(1,.pf (∀ (i e:Nat),i < a0.n/\e < a0.kl i->a0.kd i e=a0.kd i e) (by intros; rfl))] (U (okRk a0) (U (∃ (x:Nat×(Nat->Nat)),a0.n<=x.fst/\∀ (e:Nat),e < a0.n->a0.kl e<=x.snd e) (V.any (Nat×(Nat->Nat)) (fun (q:Nat×(Nat->Nat))=>a0.n<=q.fst/\∀ (e:Nat),e < a0.n->a0.kl e<=q.snd e) fun (v0:Nat×(Nat->Nat))=>k v0))))
abbrev qVn79 (l:List (Nat×P0)):List (Nat×P0):=(1,.eqI 0 0)::(1,.eq 0 0)::l
abbrev qVn80 (a0:Cf) (a1:Nat×Int) (k:V):V:=nN (qVn28 a0 []) (U (a1.fst<=ncN a0) k)
abbrev qVn81 (a0:Nat×(Nat->Nat)) (a1:Rk) (k:V):V:=nN [qE a0.fst,qL a1.n,qF a1.n a1.p,qF a1.n a1.pa,qF a1.n a1.pc,qF a1.n a1.lf,qF a1.n a1.wt,qF a1.n (fun (e:Nat)=>e),qF a1.n a1.kl,qF a1.n a0.snd,qF a1.n a1.st] (U (∀ (i:Nat),a0.snd i=a0.snd i\/a0.snd i=0) (U (∀ (i:Nat),upto a1.n a1.kl i<=a0.snd i/\upto a1.n a1.kl i<=upto a1.n a1.kl i) (nN [(1,.pf (∀ (i e:Nat),e < upto a1.n a1.kl i->a1.kd i e=a1.kd i e) (by intros; rfl))] k)))
abbrev qVn82 (a0:Cf) (k:V):V:=nN (qVn61 a0 []) (U (okY a0) k)
abbrev qVn83 (k:V):V:=qVn66 (nN (qVn65 []) k)
abbrev qVn84 (a0:Cf) (k:V):V:=nN [(14,.lt2 0 1 0 1)] (V.br ((↑a0.T.toNat:Int) != a0.T) (V.bad 412) (nN [(10,.lt2 0 1 0 1)] k))
abbrev qVns0 (c:Cf) (I1:XIm->Prop) (I3:Int->XTk->Prop) (x:Xn4) (Φ:Ev->Prop):V:=
  qVn38 c fun x_1=>nN (qVn58 c []) (qVn82 c (qVn30 c fun x_2=>nN (qVn58 c []) (qVn62 c (qVn15 c fun x_3=>qVn20 c fun x_4=>qVn84 c (qVn10 x_4 c I1 (nN ((1,.eqI 0 0)::qVn31 x_4 ((5,.eqI 0 0)::qVn52 x_4 (qVn71 c (qE x_2::qVn28 c [])))) (qVn7 c (V.any XIm I1 fun (x_5:XIm)=>V.br (decide (x_5.i < (↑(ncN c):Int)))
 (nN [(9,.lt2 0 1 0 1)] (qVn76 x_5 c x_1.m (nN ((1,.eqI 0 0)::qVn43 c (qVn23 x_5.m (qVn56 c (qE x_2::qVn28 c [])))) (qVn26 c x_5.m (qVn46 c (qVn47 c (qVn44 c (nN (qVn27 []) (qVn16 x_5.m c x_5 x_1.m fun x=>nN [(10,.lt2 0 1 0 1)] (qVn76 x_5 c x_1.m (nN (qVn51 x_4 x_5.m []) (qVn17 x_5.m x_4 x_5 x_1.m fun x_6=>qVn64 I1 x_5 x_6 c (nN (qVn51 x_4 x_6 (qVn43 c [])) (qVn60 x x_6 (qVn75 x x_6 (nN (qVn56 c (qE x_2::qVn28 c [])) (qVn40 c x x_6 V.ok)))))))))))))))))
 (qVn37 I3 x_1 (nN [(3,.eqI 0 0)] (qVn77 I3 x_1 fun x_6=>V.br (decide (x_6.i < x_1.now))
 (nN [(3,.lt2 0 1 0 1)] (qVn8 I3 x_1 x_6 (nN (qVn29 x_6 [(1,.eqI 0 0)]) V.ok)))
 (nN ((12,.lt2 0 1 0 1)::qE x_1.x.n::qVn70 x (qVn13 x_1.x (qVn11 x_1.x (qVn32 x_1.x (qVn25 x_1.x x_1 []))))) (qVn78 x_1.x x_1 fun x_7=>nN ((6,.lt2 0 1 0 1)::qE x_1.x.n::qVn70 x []) (qVn48 x_1.x x (nN (qVn41 x_1.x (qVn14 x_1.x x_1 [])) (qVn78 x_1.x x_1 fun x=>nN ((4,.lt2 0 1 0 1)::qE x_1.x.n::qVn45 x (qVn31 x_4 (qVn23 x_5.m [(1,.le 1 1)]))) (qVn19 x_4 x_5.m (nN [qE x_6.now] (qVn67 x_1.x x (nN (qVn59 []) (qVn42 c x_4 (qVn49 x_5.m x_1 x_6 (nN (qE x_1.x.n::qVn45 x_7 [(1,.le 1 1)]) (qVn22 x_4 c x_5.m (qVn67 x_1.x x_7 (nN (qVn59 []) (qVn1 x_1.x x (qVn1 x_1.x x_7 (qVn2 x_4 x_5.m x_6 x_1.x Φ x_3 c x_1 x x_7 (nN [qE c.W,qE c.L,qE c.C,qE c.T,qE c.D,qE c.H,qE c.B,qE c.A,qE c.P,qE x_3.fst.nP,qE x_3.fst.rc,qE x_3.fst.nU,qE x_3.fst.cu,qE c.W,qE c.L,qE c.C,qE c.T,qE c.D,qE c.H,qE (lS c),qE (lE c),qE (lB c),qE (lQ c)] (U (x_4.snd=lT c) (nN (qE x_1.x.n::qVn45 x (qVn51 x_4 x_5.m [qE x_6.now,qE x_1.dr])) (qVn81 x x_1.x (nN (qVn74 (qE x_3.fst.rc::qL x_3.fst.nP::qVn72 x_3 (qE x_3.fst.cu::qL x_3.fst.nU::qVn73 x_3 []))) (qVn5 x_3 (nN (qVn21 x_3 (qVn33 c [])) (qVn42 c x_4 (qVn49 x_5.m x_1 x_6 (nN [qE x_1.dr,qE x_1.x.n,qE x_7.fst] (qVn80 c x_4 (nN [qF x_4.fst x_5.m.g] (qVn81 x_7 x_1.x (nN (qVn74 []) V.ok)))))))))))))))))))))))))))))))))))))))))))
theorem vEvN_eq (c:Cf) (n cap:Nat) (ka va:Nat->Int) (I1:XIm->Prop) (I3:Int->XTk->Prop) (Φ:Ev->Prop):V.pr .z (vEvN c n cap ka va I1 I3 Φ)=
  nN (qVn58 c (qVn61 c [])) (U (okY c/\c.W<=O 4) (V.br (decide (c.W=O 1))
 (U (∃ (x:Xn4),En.okN c 2 x) (V.any Xn4 (En.okN c 2) fun (x:Xn4)=>nN (qE n::qE cap::qVn71 c [qE x.rc,(1,.eq 0 0),qE x.ec,qE (ncN c)]) (qVn7 c (nN (qE x.rc::qL c.T.toNat::qVn50 c (qVn9 c (qVn63 c []))) (qVn35 c (qVn6 c (nN (qE x.ec::(1,.le 0 0)::(1,.eq 2 2)::qE x.cm::qVn79 (qE x.sc::(4,.eqI 0 0)::qE x.sc::(1,.le 0 0)::qVn65 (qVn57 (qVn53 c [])))) (qVn66 (nN (qVn54 (qVn34 (zdl (zdl (zdl (qVn12 [])))))) (qVn55 (nN [(1,.le 1 1)] (U (2<=2/\2<=x.cm) (nN ((1,.le 1 1)::qVn18 n ka (qVn36 n va (qVn61 c []))) (U (zc6 c 2 n (Ee.mk (Mm.mk (fun (e:Nat)=>O 0) (O 0) (O 0) (O 0) (O 0) (O 0)) (O 0) (O 0) (Rk.mk c.T.toNat (fun (i:Nat)=>O 0) (fun (i:Nat)=>-O 1) (fun (i:Nat)=>O 0) (fun (i:Nat)=>O 0) (fun (i:Nat)=>-O 1) (fun (i:Nat)=>0) (fun (i j:Nat)=>O 0) fun (i:Nat)=>false) (fun (i:Nat)=>0) 0 x.ec (O 0) 0 x.sc (O 0) (O 0) (O 0) (O 0)) (M5.mk (Ma.mk (Fk.mk (fun (e:Nat)=>O 25) (fun (e:Nat)=>O 1) (fun (e:Nat)=>O 0) (fun (e:Nat)=>O 0) (fun (e:Nat)=>O 0) (fun (e:Nat)=>O 0) (fun (e:Nat)=>(↑0:Int)) (fun (e:Nat)=>O 0) (fun (e:Nat)=>O 0) (fun (e:Nat)=>O 0) (fun (e:Nat)=>(↑0:Int).tmod c.T) (fun (e:Nat)=>O 0) (fun (e:Nat)=>O 0) (fun (e:Nat)=>O 0) (fun (e:Nat)=>O 0) (fun (e:Nat)=>O 0) (fun (e:Nat)=>O 0) (fun (e:Nat)=>0) (fun (e:Nat)=>0) fun (i e:Nat)=>O 0) (Mp.mk 1 1 false (O 0) (O 0))) (Ma.mk (Fk.mk (fun (e:Nat)=>O 26) (fun (e:Nat)=>O 1) (fun (e:Nat)=>O 0) (fun (e:Nat)=>O 0) (fun (e:Nat)=>O 0) (fun (e:Nat)=>O 0) (fun (e:Nat)=>O 0) (fun (e:Nat)=>O 0) (fun (e:Nat)=>O 0) (fun (e:Nat)=>O 0) (fun (e:Nat)=>O 0) (fun (e:Nat)=>O 0) (fun (e:Nat)=>O 0) (fun (e:Nat)=>O 0) (fun (e:Nat)=>O 0) (fun (e:Nat)=>O 0) (fun (e:Nat)=>O 0) (fun (e:Nat)=>0) (fun (e:Nat)=>0) fun (i e:Nat)=>O 0) (Mp.mk 1 1 false (O 0) (O 0))) ma0 ma0 ma0)) (qVns0 c I1 I3 x Φ)))))))))))))))
 (V.br (decide (c.W=O 2))
 (U (∃ (x:Xn4),En.okN c 3 x) (V.any Xn4 (En.okN c 3) fun (x:Xn4)=>nN (qE n::qE cap::qVn71 c [qE x.rc,(1,.eq 0 0),qE x.ec,qE (ncN c)]) (qVn7 c (nN (qE x.rc::qL c.T.toNat::qVn50 c (qVn9 c (qVn63 c []))) (qVn35 c (qVn6 c (nN (qE x.ec::(1,.le 0 0)::(1,.eq 3 3)::qE x.cm::qVn79 (qE x.sc::(4,.eqI 0 0)::qE x.sc::(1,.le 0 0)::qVn65 (qVn57 (qVn53 c [])))) (qVn83 (nN (qVn69 (qVn68 c [])) (qVn66 (nN (qVn54 (qVn34 (zdl (zdl (zdl (qVn12 [])))))) (qVn55 (nN [(1,.le 1 1)] (U (3<=3/\3<=x.cm) (nN ((1,.le 1 1)::qVn18 n ka (qVn36 n va (qVn61 c []))) (U (zc6 c 3 n (Ee.mk (Mm.mk (fun (e:Nat)=>O 0) (O 0) (O 0) (O 0) (O 0) (O 0)) (O 0) (O 0) (Rk.mk c.T.toNat (fun (i:Nat)=>O 0) (fun (i:Nat)=>-O 1) (fun (i:Nat)=>O 0) (fun (i:Nat)=>O 0) (fun (i:Nat)=>-O 1) (fun (i:Nat)=>0) (fun (i j:Nat)=>O 0) fun (i:Nat)=>false) (fun (i:Nat)=>0) 0 x.ec (O 0) 0 x.sc (O 0) (O 0) (O 0) (O 0)) (M5.mk (Ma.mk (Fk.mk (fun (e:Nat)=>O 25) (fun (e:Nat)=>O 1) (fun (e:Nat)=>O 0) (fun (e:Nat)=>O 0) (fun (e:Nat)=>O 0) (fun (e:Nat)=>O 0) (fun (e:Nat)=>(↑0:Int)) (fun (e:Nat)=>O 0) (fun (e:Nat)=>O 0) (fun (e:Nat)=>O 0) (fun (e:Nat)=>(↑0:Int).tmod c.T) (fun (e:Nat)=>O 0) (fun (e:Nat)=>O 0) (fun (e:Nat)=>O 0) (fun (e:Nat)=>O 0) (fun (e:Nat)=>O 0) (fun (e:Nat)=>O 0) (fun (e:Nat)=>0) (fun (e:Nat)=>0) fun (i e:Nat)=>O 0) (Mp.mk 1 1 false (O 0) (O 0))) (Ma.mk (Fk.mk (fun (e:Nat)=>O 25) (fun (e:Nat)=>O 1) (fun (e:Nat)=>O 0) (fun (e:Nat)=>O 0) (fun (e:Nat)=>O 0) (fun (e:Nat)=>O 0) (fun (e:Nat)=>(↑1:Int)) (fun (e:Nat)=>O 0) (fun (e:Nat)=>O 0) (fun (e:Nat)=>O 0) (fun (e:Nat)=>(↑1:Int).tmod c.T) (fun (e:Nat)=>O 0) (fun (e:Nat)=>O 0) (fun (e:Nat)=>O 0) (fun (e:Nat)=>O 0) (fun (e:Nat)=>O 0) (fun (e:Nat)=>O 0) (fun (e:Nat)=>0) (fun (e:Nat)=>0) fun (i e:Nat)=>O 0) (Mp.mk 1 1 false (O 0) (O 0))) (Ma.mk (Fk.mk (fun (e:Nat)=>O 26) (fun (e:Nat)=>O 1) (fun (e:Nat)=>O 0) (fun (e:Nat)=>O 0) (fun (e:Nat)=>O 0) (fun (e:Nat)=>O 0) (fun (e:Nat)=>O 0) (fun (e:Nat)=>O 0) (fun (e:Nat)=>O 0) (fun (e:Nat)=>O 0) (fun (e:Nat)=>O 0) (fun (e:Nat)=>O 0) (fun (e:Nat)=>O 0) (fun (e:Nat)=>O 0) (fun (e:Nat)=>O 0) (fun (e:Nat)=>O 0) (fun (e:Nat)=>O 0) (fun (e:Nat)=>0) (fun (e:Nat)=>0) fun (i e:Nat)=>O 0) (Mp.mk 1 1 false (O 0) (O 0))) ma0 ma0)) (qVns0 c I1 I3 x Φ)))))))))))))))))
 (V.br (decide (c.W=O 3))
 (U (∃ (x:Xn4),En.okN c 4 x) (V.any Xn4 (En.okN c 4) fun (x:Xn4)=>nN (qE n::qE cap::qVn71 c [qE x.rc,(1,.eq 0 0),qE x.ec,qE (ncN c)]) (qVn7 c (nN (qE x.rc::qL c.T.toNat::qVn50 c (qVn9 c (qVn63 c []))) (qVn35 c (qVn6 c (nN (qE x.ec::(1,.le 0 0)::(1,.eq 4 4)::qE x.cm::qVn79 (qE x.sc::(4,.eqI 0 0)::qE x.sc::(1,.le 0 0)::qVn65 (qVn57 (qVn53 c [])))) (qVn83 (nN (qVn69 (qVn68 c [])) (qVn83 (nN (zdl (qF 1 (fun (e:Nat)=>(↑2:Int))::qVn12 [qF 1 (fun (e:Nat)=>(↑2:Int).tmod c.T)])) (qVn66 (nN (qVn54 (qVn34 (zdl (zdl (zdl (qVn12 [])))))) (qVn55 (nN [(1,.le 1 1)] (U (4<=4/\4<=x.cm) (nN ((1,.le 1 1)::qVn18 n ka (qVn36 n va (qVn61 c []))) (U (zc6 c 4 n (Ee.mk (Mm.mk (fun (e:Nat)=>O 0) (O 0) (O 0) (O 0) (O 0) (O 0)) (O 0) (O 0) (Rk.mk c.T.toNat (fun (i:Nat)=>O 0) (fun (i:Nat)=>-O 1) (fun (i:Nat)=>O 0) (fun (i:Nat)=>O 0) (fun (i:Nat)=>-O 1) (fun (i:Nat)=>0) (fun (i j:Nat)=>O 0) fun (i:Nat)=>false) (fun (i:Nat)=>0) 0 x.ec (O 0) 0 x.sc (O 0) (O 0) (O 0) (O 0)) (M5.mk (Ma.mk (Fk.mk (fun (e:Nat)=>O 25) (fun (e:Nat)=>O 1) (fun (e:Nat)=>O 0) (fun (e:Nat)=>O 0) (fun (e:Nat)=>O 0) (fun (e:Nat)=>O 0) (fun (e:Nat)=>(↑0:Int)) (fun (e:Nat)=>O 0) (fun (e:Nat)=>O 0) (fun (e:Nat)=>O 0) (fun (e:Nat)=>(↑0:Int).tmod c.T) (fun (e:Nat)=>O 0) (fun (e:Nat)=>O 0) (fun (e:Nat)=>O 0) (fun (e:Nat)=>O 0) (fun (e:Nat)=>O 0) (fun (e:Nat)=>O 0) (fun (e:Nat)=>0) (fun (e:Nat)=>0) fun (i e:Nat)=>O 0) (Mp.mk 1 1 false (O 0) (O 0))) (Ma.mk (Fk.mk (fun (e:Nat)=>O 25) (fun (e:Nat)=>O 1) (fun (e:Nat)=>O 0) (fun (e:Nat)=>O 0) (fun (e:Nat)=>O 0) (fun (e:Nat)=>O 0) (fun (e:Nat)=>(↑1:Int)) (fun (e:Nat)=>O 0) (fun (e:Nat)=>O 0) (fun (e:Nat)=>O 0) (fun (e:Nat)=>(↑1:Int).tmod c.T) (fun (e:Nat)=>O 0) (fun (e:Nat)=>O 0) (fun (e:Nat)=>O 0) (fun (e:Nat)=>O 0) (fun (e:Nat)=>O 0) (fun (e:Nat)=>O 0) (fun (e:Nat)=>0) (fun (e:Nat)=>0) fun (i e:Nat)=>O 0) (Mp.mk 1 1 false (O 0) (O 0))) (Ma.mk (Fk.mk (fun (e:Nat)=>O 25) (fun (e:Nat)=>O 1) (fun (e:Nat)=>O 0) (fun (e:Nat)=>O 0) (fun (e:Nat)=>O 0) (fun (e:Nat)=>O 0) (fun (e:Nat)=>(↑2:Int)) (fun (e:Nat)=>O 0) (fun (e:Nat)=>O 0) (fun (e:Nat)=>O 0) (fun (e:Nat)=>(↑2:Int).tmod c.T) (fun (e:Nat)=>O 0) (fun (e:Nat)=>O 0) (fun (e:Nat)=>O 0) (fun (e:Nat)=>O 0) (fun (e:Nat)=>O 0) (fun (e:Nat)=>O 0) (fun (e:Nat)=>0) (fun (e:Nat)=>0) fun (i e:Nat)=>O 0) (Mp.mk 1 1 false (O 0) (O 0))) (Ma.mk (Fk.mk (fun (e:Nat)=>O 26) (fun (e:Nat)=>O 1) (fun (e:Nat)=>O 0) (fun (e:Nat)=>O 0) (fun (e:Nat)=>O 0) (fun (e:Nat)=>O 0) (fun (e:Nat)=>O 0) (fun (e:Nat)=>O 0) (fun (e:Nat)=>O 0) (fun (e:Nat)=>O 0) (fun (e:Nat)=>O 0) (fun (e:Nat)=>O 0) (fun (e:Nat)=>O 0) (fun (e:Nat)=>O 0) (fun (e:Nat)=>O 0) (fun (e:Nat)=>O 0) (fun (e:Nat)=>O 0) (fun (e:Nat)=>0) (fun (e:Nat)=>0) fun (i e:Nat)=>O 0) (Mp.mk 1 1 false (O 0) (O 0))) ma0)) (qVns0 c I1 I3 x Φ)))))))))))))))))))
 (U (∃ (x:Xn4),En.okN c 5 x) (V.any Xn4 (En.okN c 5) fun (x:Xn4)=>nN (qE n::qE cap::qVn71 c [qE x.rc,(1,.eq 0 0),qE x.ec,qE (ncN c)]) (qVn7 c (nN (qE x.rc::qL c.T.toNat::qVn50 c (qVn9 c (qVn63 c []))) (qVn35 c (qVn6 c (nN (qE x.ec::(1,.le 0 0)::(1,.eq 5 5)::qE x.cm::qVn79 (qE x.sc::(4,.eqI 0 0)::qE x.sc::(1,.le 0 0)::qVn65 (qVn57 (qVn53 c [])))) (qVn83 (nN (qVn69 (qVn68 c [])) (qVn83 (nN (zdl (qF 1 (fun (e:Nat)=>(↑2:Int))::qVn12 [qF 1 (fun (e:Nat)=>(↑2:Int).tmod c.T)])) (qVn83 (nN (zdl (qF 1 (fun (e:Nat)=>(↑3:Int))::qVn12 [qF 1 (fun (e:Nat)=>(↑3:Int).tmod c.T)])) (qVn66 (nN (qVn54 (qVn34 (zdl (zdl (zdl (qVn12 [])))))) (qVn55 (nN [(1,.le 1 1)] (U (5<=5/\5<=x.cm) (nN ((1,.le 1 1)::qVn18 n ka (qVn36 n va (qVn61 c []))) (U (zc6 c 5 n (Ee.mk (Mm.mk (fun (e:Nat)=>O 0) (O 0) (O 0) (O 0) (O 0) (O 0)) (O 0) (O 0) (Rk.mk c.T.toNat (fun (i:Nat)=>O 0) (fun (i:Nat)=>-O 1) (fun (i:Nat)=>O 0) (fun (i:Nat)=>O 0) (fun (i:Nat)=>-O 1) (fun (i:Nat)=>0) (fun (i j:Nat)=>O 0) fun (i:Nat)=>false) (fun (i:Nat)=>0) 0 x.ec (O 0) 0 x.sc (O 0) (O 0) (O 0) (O 0)) (M5.mk (Ma.mk (Fk.mk (fun (e:Nat)=>O 25) (fun (e:Nat)=>O 1) (fun (e:Nat)=>O 0) (fun (e:Nat)=>O 0) (fun (e:Nat)=>O 0) (fun (e:Nat)=>O 0) (fun (e:Nat)=>(↑0:Int)) (fun (e:Nat)=>O 0) (fun (e:Nat)=>O 0) (fun (e:Nat)=>O 0) (fun (e:Nat)=>(↑0:Int).tmod c.T) (fun (e:Nat)=>O 0) (fun (e:Nat)=>O 0) (fun (e:Nat)=>O 0) (fun (e:Nat)=>O 0) (fun (e:Nat)=>O 0) (fun (e:Nat)=>O 0) (fun (e:Nat)=>0) (fun (e:Nat)=>0) fun (i e:Nat)=>O 0) (Mp.mk 1 1 false (O 0) (O 0))) (Ma.mk (Fk.mk (fun (e:Nat)=>O 25) (fun (e:Nat)=>O 1) (fun (e:Nat)=>O 0) (fun (e:Nat)=>O 0) (fun (e:Nat)=>O 0) (fun (e:Nat)=>O 0) (fun (e:Nat)=>(↑1:Int)) (fun (e:Nat)=>O 0) (fun (e:Nat)=>O 0) (fun (e:Nat)=>O 0) (fun (e:Nat)=>(↑1:Int).tmod c.T) (fun (e:Nat)=>O 0) (fun (e:Nat)=>O 0) (fun (e:Nat)=>O 0) (fun (e:Nat)=>O 0) (fun (e:Nat)=>O 0) (fun (e:Nat)=>O 0) (fun (e:Nat)=>0) (fun (e:Nat)=>0) fun (i e:Nat)=>O 0) (Mp.mk 1 1 false (O 0) (O 0))) (Ma.mk (Fk.mk (fun (e:Nat)=>O 25) (fun (e:Nat)=>O 1) (fun (e:Nat)=>O 0) (fun (e:Nat)=>O 0) (fun (e:Nat)=>O 0) (fun (e:Nat)=>O 0) (fun (e:Nat)=>(↑2:Int)) (fun (e:Nat)=>O 0) (fun (e:Nat)=>O 0) (fun (e:Nat)=>O 0) (fun (e:Nat)=>(↑2:Int).tmod c.T) (fun (e:Nat)=>O 0) (fun (e:Nat)=>O 0) (fun (e:Nat)=>O 0) (fun (e:Nat)=>O 0) (fun (e:Nat)=>O 0) (fun (e:Nat)=>O 0) (fun (e:Nat)=>0) (fun (e:Nat)=>0) fun (i e:Nat)=>O 0) (Mp.mk 1 1 false (O 0) (O 0))) (Ma.mk (Fk.mk (fun (e:Nat)=>O 25) (fun (e:Nat)=>O 1) (fun (e:Nat)=>O 0) (fun (e:Nat)=>O 0) (fun (e:Nat)=>O 0) (fun (e:Nat)=>O 0) (fun (e:Nat)=>(↑3:Int)) (fun (e:Nat)=>O 0) (fun (e:Nat)=>O 0) (fun (e:Nat)=>O 0) (fun (e:Nat)=>(↑3:Int).tmod c.T) (fun (e:Nat)=>O 0) (fun (e:Nat)=>O 0) (fun (e:Nat)=>O 0) (fun (e:Nat)=>O 0) (fun (e:Nat)=>O 0) (fun (e:Nat)=>O 0) (fun (e:Nat)=>0) (fun (e:Nat)=>0) fun (i e:Nat)=>O 0) (Mp.mk 1 1 false (O 0) (O 0))) (Ma.mk (Fk.mk (fun (e:Nat)=>O 26) (fun (e:Nat)=>O 1) (fun (e:Nat)=>O 0) (fun (e:Nat)=>O 0) (fun (e:Nat)=>O 0) (fun (e:Nat)=>O 0) (fun (e:Nat)=>O 0) (fun (e:Nat)=>O 0) (fun (e:Nat)=>O 0) (fun (e:Nat)=>O 0) (fun (e:Nat)=>O 0) (fun (e:Nat)=>O 0) (fun (e:Nat)=>O 0) (fun (e:Nat)=>O 0) (fun (e:Nat)=>O 0) (fun (e:Nat)=>O 0) (fun (e:Nat)=>O 0) (fun (e:Nat)=>0) (fun (e:Nat)=>0) fun (i e:Nat)=>O 0) (Mp.mk 1 1 false (O 0) (O 0))))) (qVns0 c I1 I3 x Φ))))))))))))))))))))))))):=by kernel_rfl
theorem nc_6 {c:Cf} (hY:okY c):ncN c<=1000000:=Nat.le_trans (nc_le hY) (by decide)
theorem E_evN {c d:Cf} {y:Ee} {x:XIm} {w:Nat} {now dr:Int} {a b:Nat×(Nat->Nat)} (hY:okY c) (hd:IsCl c d/\c.T.toNat<=w) (he:okEe 900000 c y) (h:IE1 c x) (ha:y.x.n<=a.1/\∀ e,e < y.x.n->y.x.kl e<=a.2 e) (hb:y.x.n<=b.1/\∀ e,e < y.x.n->y.x.kl e<=b.2 e):
  okEv c ⟨⟨c.W,c.L,c.C,c.T,c.D,c.H,c.B,c.A,c.P,d.nP,d.rc,d.nU,d.cu,d.lenP,d.FC,d.iO,d.iA,d.iB,d.uP,d.uL,d.uD⟩,ncN c,x.m,y.x,now,dr,⟨ncN c,a.1,a.2,0⟩,⟨ncN c,b.1,b.2,0⟩⟩:=E_ev (x:=⟨O 0,x.m⟩) hY hd he (E2_0 hY h) ha hb
theorem vhEvN {c:Cf} {n cap:Nat} {ka va:Nat->Int} (h:errE c=0) (hC:okC c) (hW:c.W<=4) (hU:c.nU<=900000) (hn:n<=30000):zae (vEvN c n cap ka va (IE1 c) IE3 (okEv c)):=by
 have hY:=okY_of h
 refine zae.pr (vEvN_eq ..) ?_
 (with_reducible repeat' first | exact V.okI | refine V.brT ?_ | refine V.brF ?_ | refine V.brI ?_ ?_ | refine V.anyI ?_ | refine nN_h rfl ?_ | refine V.needI ?_ ?_ | intro _)
 all_goals first
  | rfl
  | exact .inl rfl
  | exact Z _
  | assumption
  | exact Nat.zero_le _
  | subst_vars; rfl
  | skip
 all_goals first
  | exact ⟨hY,hW⟩
  | exact ⟨⟨_,_,0,0⟩,Z _,Z _⟩
  | exact E_up
  | exact ⟨_,Z _⟩
  | exact ⟨(_,_),is_cl _,Z _⟩
  | exact E_cm ‹_›
  | exact E_pre (k:=2) hY hC hU hn (by decide) (by decide)
  | exact E_pre (k:=3) hY hC hU hn (by decide) (by decide)
  | exact E_pre (k:=4) hY hC hU hn (by decide) (by decide)
  | exact E_pre (k:=5) hY hC hU hn (by decide) (by decide)
  | exact ⟨_,ee_ok (ec:=0) (sc:=0)⟩
  | exact E1_0
  | exact E1_ix ‹_› ‹_›
  | exact E1_in ‹_› ‹_›
  | exact E1_mu hY ‹_› ‹_›
  | exact E2_ix ‹_› ‹_›
  | exact E2_in ‹_› ‹_›
  | exact E2_iy ‹_› ‹_›
  | exact E2_iz ‹_› ‹_›
  | exact E2_ok hY ‹_›
  | exact E2_ex ‹_›
  | exact E2_s ‹_› ‹_› ‹_›
  | exact E2_mu ‹_› ‹_›
  | exact E3_0 ‹_›
  | exact E3_s ‹_› ‹_› ‹_›
  | exact E3_mu ‹_› ‹_› ‹_›
  | exact E3_end ‹_› ‹_›
  | exact E_kl ‹_› ‹_›
  | exact E_kq ‹_› ‹_›
  | exact E_rk hY ‹_›
  | exact E_q
  | exact E_rc ‹_› ‹_›
  | exact E_up2 ‹_› _
  | exact E_gd ‹_› _
  | exact ⟨Z _,Z _⟩
  | exact ⟨Z _,And.left ‹_›⟩
  | (subst_vars; exact E1_s hY ‹_› ‹_› ‹_›)
  | (subst_vars; exact E_evN hY ‹_› ‹_› ‹_› ‹_› ‹_›)
  | (subst_vars; exact ⟨Z _,Z _⟩)
  | (subst_vars; exact ⟨nc_6 hY,E_rk hY ‹_›,Nat.zero_le _⟩)
  | (subst_vars; exact Z _)
  | (exfalso; rename_i hb; have h1:¬ (c.T.toNat:Int)=c.T:=(by simpa using hb); have:=hY.2.2.2.1; omega)
  | (exfalso; subst_vars; rename_i hb; simp at hb; done)
  | trace_state
noncomputable section
def postEvN (c:Cf) (n:Nat):Out (SV×Hp):=.need (preEv c n) (.any Ev (okEv c) fun v=>.leaf (svEvS,⟨hEvS c v,20,fun _=>True⟩))
def cEvN:List SV->Hp->Out (SV×Hp):=fun args H=>match args with
  | [.a [x0,x1,x2,x3,x4,x5,x6,x7,x8,.slc kr _ _ _ nP rc,.slc ku _ _ _ nU cu],.c (.slc ks _ _ _ n cap),.c .nils]=>match numC x0,numC x1,numC x2,numC x3,numC x4,numC x5,numC x6,numC x7,numC x8 with
    | some W,some L,some C,some T,some D,some h,some B,some A,some Q=>fN kr fun kr=>fN ku fun ku=>fN ks fun ks=>match (find ks H.h).map zds with
      | some [ca,cb]=>match colG ca,colG cb with
        | some ka,some va=>cfBlk H.h kr ku fun kF ln cp o a b f g k=>useP [kr,ku,kF,ks,0] 5
                (argEvN ⟨W,L,C,T,D,h,B,A,Q,nP.v,rc.v,nU.v,cu.v,fun e=>ln 0 e,fun e=>cp 0 e,o,a,b,fun e=>f 0 e,fun e=>g 0 e,fun e=>k 0 e⟩ n.v cap.v)
                (hInN ⟨W,L,C,T,D,h,B,A,Q,nP.v,rc.v,nU.v,cu.v,fun e=>ln 0 e,fun e=>cp 0 e,o,a,b,fun e=>f 0 e,fun e=>g 0 e,fun e=>k 0 e⟩ n.v (fun e=>ka e) (fun e=>va e))
                (postEvN ⟨W,L,C,T,D,h,B,A,Q,nP.v,rc.v,nU.v,cu.v,fun e=>ln 0 e,fun e=>cp 0 e,o,a,b,fun e=>f 0 e,fun e=>g 0 e,fun e=>k 0 e⟩ n.v) args H
        | _,_=>.bad 436
      | _=>.bad 437
    | _,_,_,_,_,_,_,_,_=>.bad 434
  | _=>.bad 435
theorem lEvN {c:Cf} {n cap:Nat} {ka va:Nat->Int}:zah P fEv (argEvN c n cap) (hInN c n ka va) 5 (postEvN c n):=zad conEvS_ok fun h=>vhEvN h.1 h.2.1 h.2.2.1 h.2.2.2.1 h.2.2.2.2
theorem cEvN_ok:zab P fEv cEvN:=zac fun args H=>by
 unfold cEvN
 simp only [fN_eq]
 repeat' split
 all_goals first | exact .inl ⟨_,rfl⟩ | exact (zgk _ _ _ _).elim .inl fun ⟨_,_,_,_,_,_,_,_,_,e⟩=>.inr ⟨_,_,_,_,_,e,lEvN⟩
end
end Go.Proofs.YtfkdlkidflgalaaGreat.En
