/- An environment copied; MachineCopies: what is asked. -/
import Derived.Test.YtfkdlkidflgalaaGreatMEnCy
import Derived.Test.YtfkdlkidflgalaaGreatMEn
import Derived.Test.YtfkdlkidflgalaaGreatMEg
import Derived.Test.YtfkdlkidflgalaaGreatMW
import Derived.Test.YtfkdlkidflgalaaGreatMV
set_option maxHeartbeats 64000000
set_option linter.unusedVariables false
set_option linter.unusedSimpArgs false
set_option maxRecDepth 100000
open Go.IntKind (i64 u64)
open Int renaming ofNat -> O
open Nat renaming le_refl -> Z
open Go.Proofs.YtfkdlkidflgalaaGreat.Sx.V renaming need -> U
namespace Go.Proofs.YtfkdlkidflgalaaGreat.En
open Go Go.RowKit Sx Cn Dc Ck Vc Md
noncomputable section
def fCz:FuncId:=10
def hCz (c:Cf) (v:Ev) (l:El) (le:Nat):HL:=[(0,.view 1 (fun _=>1) ((cfL 7 8 v.d++layL c++[.ptr 1 (.k 0) (.k 0) 0 6,.ptr 3 (.k 0) (.k 0) 0 2,slK 4 7 v.x.n v.a.r,slK 6 5 l.n le]).map ck1)),
 (1,.view 1 (fun _=>1) ([slK 2 1 v.n v.a.c,i6 v.m.lk,i6 v.m.lc,uw v.m.lo,uw v.m.ln,i6 v.m.ct].map ck1)),(2,wV v.n v.m.g),(3,.view 1 (fun _=>1) [ck1 (i6 v.now),ck1 (i6 v.dr)]),(4,v.x.rowV 5 v.a.k),(5,v.x.famV),(6,eV l.n l.v)]++hCm 7 v.d
def hCzR (c:Cf) (v:Ev) (l:El) (q:Cf×Rm):HL:=[(10,.own 47 26 ((cfL 17 18 q.1++layL c++[.ptr 11 (.k 0) (.k 0) 0 6,.ptr 13 (.k 0) (.k 0) 0 2,slK 14 7 v.x.n q.2.r,slK 16 5 l.n q.2.e]).map some)),(11,pmB 12 v.n q.2.c v.m),(12,wRow q.2.c v.n v.m),(13,clkB v.now v.dr),
 (14,v.x.row 15 q.2.k q.2.r),(15,.fam true 3 (gd v.x.n q.2.k) (gd v.x.n v.x.kl) [.ci .i64 fun i e=>v.x.kd i e]),(16,.row 24 q.2.e l.n l.v.cols)]++hOwn 17 q.1
def pkY (s:St):Nat:=scK (zav (tmK 3 s) 24 s.H.h)
def famY (k:Nat) (H:Hp):Nat:=match (find k H.h).map zds with
 | some [_,_,_,_,_,.lt _ (.cs F _ _ _ _) _,_]=>F
 | _=>H.nxt - 1
def fkY (s:St):Nat:=famY (pkY s) s.H
def capsY (k:Nat) (h:HL):Option (Nat->Nat):=match (find k h).map zds with
 | some [_,_,_,_,_,.lt _ (.cs _ _ _ _ c) _,_]=>some fun e=>c 0 e
 | some _=>some fun _=>0
 | none=>none
def laCz (v:Ev) (s:St):Option (LA (Int×(Nat->Nat))):=match capK (pkY s) s.H.h with
 | some cp=>fN (fkY s) fun fk=>some ⟨[(pkY,true),(fkY,false)],fun x=>[.row 62 cp v.x.n [.ci .i64 fun _ e=>v.x.p e,.ci .i64 fun _ e=>v.x.pa e,.ci .i64 fun _ e=>v.x.pc e,.ci .i64 fun _ e=>v.x.lf e,.ci .i64 fun _ e=>v.x.wt e,.lt x.1.toNat (.cs fk 1 (fun _ e=>e) (fun _ e=>v.x.kl e) (fun _ e=>x.2 e)) (.cs 5 1 (fun _ e=>e) (fun _ e=>v.x.kl e) (fun _ e=>v.a.k e)),.cb fun _ e=>v.x.st e],
   .fam true 3 (gd x.1.toNat x.2) (gd x.1.toNat v.x.kl) [.ci .i64 fun i e=>v.x.kd i e]],[41],fun x=>[iv x.1],fun s=>match tmI 41 s,capsY (pkY s) s.H.h with | some i,some F=>some (i,F) | _,_=>none,
   fun x=>0<=x.1/\x.1<=v.x.n/\∀ e,e < x.1.toNat->v.x.kl e<=x.2 e,fun x=>v.x.n - x.1.toNat⟩
 | none=>none
def rdCz (s:SV) (H:Hp):Option (Cf×Rm):=match s with
 | .c (.ptr ke _ _ _ _)=>fN ke fun ke=>fN (scK (zav ke 22 H.h)) fun km=>match cfE ke H.h,rdMm H.h km,ceS ke 24 H.h,ceS ke 25 H.h with
  | some d,some y,some (e4,_,xr),some (_,_,er)=>(match capsY e4 H.h with | some F=>some (d,⟨y.cap.v,xr,F,er⟩) | none=>none)
  | _,_,_,_=>none
 | _=>none
def LCz (s:SV) (H:Hp):List Nat:=match s with
 | .c (.ptr ke _ _ _ _)=>fN ke fun ke=>match ceS ke 24 H.h,ceS ke 25 H.h,ceS ke 9 H.h,ceS ke 10 H.h with
  | some (e4,_,_),some (e5,_,_),some (p,_,_),some (u,_,_)=>[ke,scK (zav ke 22 H.h),scK (zav (scK (zav ke 22 H.h)) 0 H.h),scK (zav ke 23 H.h),e4,famY e4 H,e5,p,u,(match find p H.h with | some (.row _ _ _ [.cs kF _ _ _ _])=>kF | _=>0)]
  | _,_,_,_=>[]
 | _=>[]
def okCz (v:Ev) (l:El) (q:Cf×Rm):Prop:=IsCl v.d q.1/\v.n<=q.2.c/\v.x.n<=q.2.r/\(∀ e,e < v.x.n->v.x.kl e<=q.2.k e)/\l.n<=q.2.e
def preCz (v:Ev) (l:El):Prop:=preE v.d/\v.n<=1000000/\okRk v.x/\l.n<=1000000
def svCz:SV:=.c (.ptr 10 (.k 0) (.k 0) 0 26)
def cnCz:Con:=Con.add 33 conClone (Con.add fCl cCl (Con.add fYr cYr (Con.add fYe cYe (Con.add fYk cYk con0))))
theorem cnCz_ok:zak P cnCz:=.add conClone_ok (.add cCl_ok (.add cYr_ok (.add cYe_ok (.add cYk_ok zak.nil))))
def vCz (c:Cf) (v:Ev) (l:El) (le:Nat):V:=verF P cnCz 4 6 fCz [(6,.joinLt pkY 5)] (.loop _ [.newFam 3 [.ci .i64 fun i e=>v.x.kd i e]] (laCz v) .nil .nil) [.c (.ptr 0 (.k 0) (.k 0) 0 26)] ⟨hCz c v l le,10,fun _=>True⟩
 (finV (X:=Cf×Rm) 10 20 rdCz LCz (okCz v l) (fun _=>svCz) (hCzR c v l))
def cCz:List SV->Hp->Out (SV×Hp):=fun args H=>match args with
 | [.c (.ptr ke _ _ _ _)]=>fN ke fun ke=>fN (scK (zav ke 22 H.h)) fun km=>fN (scK (zav ke 23 H.h)) fun kk=>match cfE ke H.h,ceS ke 24 H.h,ceS ke 25 H.h,ceS ke 9 H.h,ceS ke 10 H.h with
  | some d,some (e4,xn,xr),some (e5,en,er),some (p,_,_),some (u,_,_)=>(match rdMm H.h km,rdRk e4 xn H.h,rdEv e5 H.h,ceI kk 0 H.h,ceI kk 1 H.h,kProg p H.h with
   | some y,some (x,f1,c1),some ev,some now,some dr,some kF=>useP [ke,km,y.kc,kk,e4,f1,e5,p,u,kF] 10 [.c (.ptr 0 (.k 0) (.k 0) 0 26)] (hCz d ⟨d,y.len.v,y.m,x,now,dr,⟨y.cap.v,xr,c1,er⟩,⟨0,0,fun _=>0,0⟩⟩ ⟨en,ev⟩ er) (.need (preCz ⟨d,y.len.v,y.m,x,now,dr,⟨y.cap.v,xr,c1,er⟩,⟨0,0,fun _=>0,0⟩⟩ ⟨en,ev⟩) (.any (Cf×Rm) (okCz ⟨d,y.len.v,y.m,x,now,dr,⟨y.cap.v,xr,c1,er⟩,⟨0,0,fun _=>0,0⟩⟩ ⟨en,ev⟩) fun q=>.leaf (svCz,⟨hCzR d ⟨d,y.len.v,y.m,x,now,dr,⟨y.cap.v,xr,c1,er⟩,⟨0,0,fun _=>0,0⟩⟩ ⟨en,ev⟩ q,20,fun _=>True⟩))) args H
   | _,_,_,_,_,_=>.bad 490)
  | _,_,_,_,_=>.bad 491
 | _=>.bad 492
end
abbrev qCz0 (a0:Int×(Nat->Nat)) (a1:Rk) (k:V):V:=U (O 0<=a0.fst/\a0.fst < (↑a1.n:Int)) (U (0 < 1/\0+a0.fst.toNat < a1.n) k)
theorem vCz_eq (c:Cf) (v:Ev) (l:El) (le:Nat):V.pr (.b (.f .z) .z) (vCz c v l le)=
  nN [(13,.lt2 0 1 0 1),qE v.d.W,qE v.d.L,qE v.d.C,qE v.d.T,qE v.d.D,qE v.d.H,qE v.d.B,qE v.d.A,qE v.d.P,qE v.d.nP,qE v.d.rc,qE v.d.nU,qE v.d.cu,(1,.le 1 1),(1,.pf (∀ (i:Nat),i < 1->v.d.nP<=v.d.nP) (by intros; exact Z _)),(1,.pf (∀ (i e:Nat),i < 1/\e < v.d.nP->e=e) (by intros; rfl)),(1,.pf (∀ (i e:Nat),i < 1/\e < v.d.nP->v.d.lenP e=v.d.lenP e) (by intros; rfl)),(1,.pf (∀ (i e:Nat),i < 1/\e < v.d.nP->v.d.FC e=v.d.FC e) (by intros; rfl)),(1,.le 1 1),(1,.pf (∀ (i:Nat),i < 1->v.d.nU<=v.d.nU) (by intros; exact Z _)),(1,.pf (∀ (i e:Nat),i < 1/\e < v.d.nU->v.d.uP e=v.d.uP e) (by intros; rfl)),(1,.pf (∀ (i e:Nat),i < 1/\e < v.d.nU->v.d.uL e=v.d.uL e) (by intros; rfl)),(1,.pf (∀ (i e:Nat),i < 1/\e < v.d.nU->v.d.uD e=v.d.uD e) (by intros; rfl)),qL v.d.nP,(1,.pf (∀ (i:Nat),i < v.d.nP->v.d.lenP i<=v.d.lenP i) (by intros; exact Z _)),(1,.pf (∀ (i e:Nat),i < v.d.nP/\e < v.d.lenP i->v.d.iO i e=v.d.iO i e) (by intros; rfl)),(1,.pf (∀ (i e:Nat),i < v.d.nP/\e < v.d.lenP i->v.d.iA i e=v.d.iA i e) (by intros; rfl)),(1,.pf (∀ (i e:Nat),i < v.d.nP/\e < v.d.lenP i->v.d.iB i e=v.d.iB i e) (by intros; rfl))] (U (preE v.d) (U (∃ (x:Cf),IsCl v.d x) (V.any Cf (IsCl v.d) fun (x:Cf)=>nN [(26,.lt2 0 1 0 1),qE v.n,qE v.a.c,(1,.le 1 1),(1,.pf (∀ (i:Nat),i < 1->v.n<=v.n) (by intros; exact Z _)),(1,.pf (∀ (i e:Nat),i < 1/\e < v.n->v.m.g e=v.m.g e) (by intros; rfl))] (U (v.n<=1000000) (U (∃ (x:Nat),v.n<=x) (V.any Nat (fun (c:Nat)=>v.n<=c) fun (x_1:Nat)=>nN [(9,.lt2 0 1 0 1),qE v.x.n,qE v.a.r,(1,.le 1 1),(1,.pf (∀ (i:Nat),i < 1->v.x.n<=v.x.n) (by intros; exact Z _)),(1,.pf (∀ (i e:Nat),i < 1/\e < v.x.n->v.x.p e=v.x.p e) (by intros; rfl)),(1,.pf (∀ (i e:Nat),i < 1/\e < v.x.n->v.x.pa e=v.x.pa e) (by intros; rfl)),(1,.pf (∀ (i e:Nat),i < 1/\e < v.x.n->v.x.pc e=v.x.pc e) (by intros; rfl)),(1,.pf (∀ (i e:Nat),i < 1/\e < v.x.n->v.x.lf e=v.x.lf e) (by intros; rfl)),(1,.pf (∀ (i e:Nat),i < 1/\e < v.x.n->v.x.wt e=v.x.wt e) (by intros; rfl)),(1,.pf (∀ (i e:Nat),i < 1/\e < v.x.n->e=e) (by intros; rfl)),(1,.pf (∀ (i e:Nat),i < 1/\e < v.x.n->v.x.kl e=v.x.kl e) (by intros; rfl)),(1,.pf (∀ (i e:Nat),i < 1/\e < v.x.n->v.a.k e=v.a.k e) (by intros; rfl)),(1,.pf (∀ (i e:Nat),i < 1/\e < v.x.n->v.x.st e=v.x.st e) (by intros; rfl)),qL v.x.n,(1,.pf (∀ (i:Nat),i < v.x.n->v.x.kl i<=v.x.kl i) (by intros; exact Z _)),(1,.pf (∀ (i e:Nat),i < v.x.n/\e < v.x.kl i->v.x.kd i e=v.x.kd i e) (by intros; rfl))] (U (okRk v.x) (U (∃ (x:Nat),v.x.n<=x) (V.any Nat (fun (c:Nat)=>v.x.n<=c) fun (x_2:Nat)=>nN [(3,.lt2 0 1 0 1),qE l.n,qE le,(1,.le 1 1),(1,.pf (∀ (i:Nat),i < 1->l.n<=l.n) (by intros; exact Z _)),(1,.pf (∀ (i e:Nat),i < 1/\e < l.n->l.v.k e=l.v.k e) (by intros; rfl)),(1,.pf (∀ (i e:Nat),i < 1/\e < l.n->l.v.w e=l.v.w e) (by intros; rfl)),(1,.pf (∀ (i e:Nat),i < 1/\e < l.n->l.v.t e=l.v.t e) (by intros; rfl)),(1,.pf (∀ (i e:Nat),i < 1/\e < l.n->l.v.o e=l.v.o e) (by intros; rfl)),(1,.pf (∀ (i e:Nat),i < 1/\e < l.n->l.v.l e=l.v.l e) (by intros; rfl))] (U (l.n<=1000000) (U (∃ (x:Nat),l.n<=x) (V.any Nat (fun (c:Nat)=>l.n<=c) fun (x_3:Nat)=>U (O 0<=O 0/\O 0<=(↑v.x.n:Int)/\∀ (e:Nat),e < 0->v.x.kl e<=0) (nN [(1,.eqI 0 0),qE x_2,qL v.x.n,qF v.x.n v.x.p,qF v.x.n v.x.pa,qF v.x.n v.x.pc,qF v.x.n v.x.lf,qF v.x.n v.x.wt] (U (∀ (e:Nat),e < v.x.n->¬e < 0) (nN [qF v.x.n (fun (e:Nat)=>e),qF v.x.n v.x.kl,qF v.x.n v.a.k,qF v.x.n v.x.st] (U (∀ (i:Nat),0=gd 0 (fun (x:Nat)=>0) i\/gd 0 (fun (x:Nat)=>0) i=0) (U (∀ (i:Nat),gd 0 v.x.kl i<=gd 0 (fun (x:Nat)=>0) i/\gd 0 v.x.kl i<=0) (nN [(1,.pf (∀ (i e:Nat),e < gd 0 v.x.kl i->v.x.kd i e=v.x.kd i e) (by intros; rfl))] (V.any (Int×(Nat->Nat)) (fun (x:Int×(Nat->Nat))=>O 0<=x.fst/\x.fst<=(↑v.x.n:Int)/\∀ (e:Nat),e < x.fst.toNat->v.x.kl e<=x.snd e) fun (x_4:Int×(Nat->Nat))=>V.br (decide (x_4.fst < (↑v.x.n:Int)))
 (nN [(6,.lt2 0 1 0 1)] (qCz0 x_4 v.x (U (0 < 1/\0+x_4.fst.toNat < v.x.n) (U (0 < 1/\0+x_4.fst.toNat < v.x.n) (U (decide (0+x_4.fst.toNat < x_4.fst.toNat)=false) (nN [qE (0+x_4.fst.toNat),qE (v.x.kl (0+x_4.fst.toNat)),qE (v.a.k (0+x_4.fst.toNat))] (U (0+x_4.fst.toNat+1<=v.x.n) (U (∀ (i:Nat),i < 0+x_4.fst.toNat+1->onI (0+x_4.fst.toNat) (v.x.kl (0+x_4.fst.toNat)) i<=v.x.kl i) (nN [(1,.pf (∀ (i e:Nat),i < 0+x_4.fst.toNat+1/\e < onI (0+x_4.fst.toNat) (v.x.kl (0+x_4.fst.toNat)) i->v.x.kd i e=v.x.kd i e) (by intros; rfl))] (U (v.x.kl (0+x_4.fst.toNat)<=1000000) (U (∃ (x:Nat),v.x.kl (0+x_4.fst.toNat)<=x) (V.any Nat (fun (c:Nat)=>v.x.kl (0+x_4.fst.toNat)<=c) fun (x:Nat)=>qCz0 x_4 v.x (U (0 < 1/\0+x_4.fst.toNat < v.x.n) (U (0+x_4.fst.toNat < v.x.n) (U (True/\x_4.fst.toNat=0+x_4.fst.toNat/\(∀ (i e:Nat),i=0/\e < v.x.n->i=0)/\∀ (e:Nat),e < 0+x_4.fst.toNat->e≠0+x_4.fst.toNat) (U (O 0<=i64.wrap (x_4.fst+O 1)/\i64.wrap (x_4.fst+O 1)<=(↑v.x.n:Int)/\∀ (e:Nat),e < (i64.wrap (x_4.fst+O 1)).toNat->v.x.kl e<=if 0=0/\e=0+x_4.fst.toNat then x else x_4.snd e) (U (v.x.n - (i64.wrap (x_4.fst+O 1)).toNat < v.x.n - x_4.fst.toNat) (nN [qE (i64.wrap (x_4.fst+O 1)),qE x_2,qL v.x.n,qF v.x.n v.x.p,qF v.x.n v.x.pa,qF v.x.n v.x.pc,qF v.x.n v.x.lf,qF v.x.n v.x.wt] (U (0+x_4.fst.toNat+1=(i64.wrap (x_4.fst+O 1)).toNat) (nN [(1,.pf (∀ (i e:Nat),(i=0/\e < v.x.n)/\¬e < 0+x_4.fst.toNat+1->e=e) (by intros; rfl)),(1,.pf (∀ (i e:Nat),(i=0/\e < v.x.n)/\¬e < 0+x_4.fst.toNat+1->v.x.kl e=v.x.kl e) (by intros; rfl)),(1,.pf (∀ (i e:Nat),(i=0/\e < v.x.n)/\¬e < 0+x_4.fst.toNat+1->v.a.k e=v.a.k e) (by intros; rfl)),(1,.pf (∀ (i e:Nat),(i=0/\e < v.x.n)/\e < 0+x_4.fst.toNat+1->e=e) (by intros; rfl))] (U (∀ (i e:Nat),(i=0/\e < v.x.n)/\e < 0+x_4.fst.toNat+1->(if i=0/\e=0+x_4.fst.toNat then v.x.kl (0+x_4.fst.toNat) else v.x.kl e)=v.x.kl e) (U (∀ (i e:Nat),(i=0/\e < v.x.n)/\e < 0+x_4.fst.toNat+1->(if i=0/\e=0+x_4.fst.toNat then x else x_4.snd e)=if 0=0/\e=0+x_4.fst.toNat then x else x_4.snd e) (nN [qF v.x.n v.x.st] (U (∀ (i:Nat),(if i=0+x_4.fst.toNat then x else gd x_4.fst.toNat x_4.snd i)=gd (i64.wrap (x_4.fst+O 1)).toNat (aN (0+x_4.fst.toNat) x x_4.snd) i\/gd (i64.wrap (x_4.fst+O 1)).toNat (aN (0+x_4.fst.toNat) x x_4.snd) i=0) (U (∀ (i:Nat),gd (i64.wrap (x_4.fst+O 1)).toNat v.x.kl i<=gd (i64.wrap (x_4.fst+O 1)).toNat (aN (0+x_4.fst.toNat) x x_4.snd) i/\gd (i64.wrap (x_4.fst+O 1)).toNat v.x.kl i<=if i=0+x_4.fst.toNat then v.x.kl (0+x_4.fst.toNat) else gd x_4.fst.toNat v.x.kl i) (U (∀ (i e:Nat),e < gd (i64.wrap (x_4.fst+O 1)).toNat v.x.kl i->(if i=0+x_4.fst.toNat then v.x.kd (0+x_4.fst.toNat) e else v.x.kd i e)=v.x.kd i e) V.ok))))))))))))))))))))))))))
 (U (okCz v l (x,Rm.mk x_1 x_2 x_4.snd x_3)) (nN [qE x.W,qE x.L,qE x.C,qE x.T,qE x.D,qE x.H,qE x.B,qE x.A,qE x.P,qE x.nP,qE x.rc,qE x.nU,qE x.cu,qE c.W,qE c.L,qE c.C,qE c.T,qE c.D,qE c.H,qE (lS c),qE (lE c),qE (lB c),qE (lQ c),qE (lT c),qE v.x.n,qE x_2,qE l.n,qE x_3,qE v.n,qE x_1,qE v.m.lk,qE v.m.lc,qE v.m.lo,qE v.m.ln,qE v.m.ct,qE x_1,qL v.n,qF v.n v.m.g,qE v.now,qE v.dr,qE x_2,qL v.x.n,qF v.x.n v.x.p,qF v.x.n v.x.pa,qF v.x.n v.x.pc,qF v.x.n v.x.lf,qF v.x.n v.x.wt] (U (∀ (e:Nat),e < v.x.n->e < x_4.fst.toNat) (nN [qF v.x.n (fun (e:Nat)=>e),qF v.x.n v.x.kl,qF v.x.n x_4.snd,qF v.x.n v.x.st] (U (∀ (i:Nat),gd x_4.fst.toNat x_4.snd i=gd v.x.n x_4.snd i\/gd v.x.n x_4.snd i=0) (U (∀ (i:Nat),gd v.x.n v.x.kl i<=gd v.x.n x_4.snd i/\gd v.x.n v.x.kl i<=gd x_4.fst.toNat v.x.kl i) (nN [(1,.pf (∀ (i e:Nat),e < gd v.x.n v.x.kl i->v.x.kd i e=v.x.kd i e) (by intros; rfl)),qE x_3,qL l.n,qF l.n l.v.k,qF l.n l.v.w,qF l.n l.v.t,qF l.n l.v.o,qF l.n l.v.l,qE x.rc,qL x.nP,qF x.nP (fun (e:Nat)=>e),qF x.nP x.lenP,qF x.nP x.FC,qE x.cu,qL x.nU,qF x.nU x.uP,qF x.nU x.uL,qF x.nU x.uD] (U (∀ (i:Nat),gd x.nP x.FC i=gd x.nP x.FC i\/gd x.nP x.FC i=0) (U (∀ (i:Nat),gd x.nP x.lenP i<=gd x.nP x.FC i/\gd x.nP x.lenP i<=gd x.nP x.lenP i) (nN [(1,.pf (∀ (i e:Nat),e < gd x.nP x.lenP i->x.iO i e=x.iO i e) (by intros; rfl)),(1,.pf (∀ (i e:Nat),e < gd x.nP x.lenP i->x.iA i e=x.iA i e) (by intros; rfl)),(1,.pf (∀ (i e:Nat),e < gd x.nP x.lenP i->x.iB i e=x.iB i e) (by intros; rfl))] V.ok))))))))))))))))))))))))))))):=by kernel_rfl
section
variable {n:Nat} {x:Int×(Nat->Nat)} {kl:Nat->Nat} {w:Nat}
def Hz (n:Nat) (kl:Nat->Nat) (x:Int×(Nat->Nat)):Prop:=0<=x.1/\x.1<=n/\∀ e,e < x.1.toNat->kl e<=x.2 e
theorem cz_0:O 0<=O 0/\O 0<=(n:Int)/\∀ e:Nat,e < 0->kl e<=0:=⟨Int.le_refl _,Int.natCast_nonneg _,fun e h=>absurd h (Nat.not_lt_zero e)⟩
theorem cz_i (h:Hz n kl x) (hx:decide (x.1 < (n:Int))=true):O 0<=x.1/\x.1 < n:=⟨h.1,of_decide_eq_true hx⟩
theorem cz_n (h:Hz n kl x) (hx:decide (x.1 < (n:Int))=true):0+x.1.toNat < n:=by have:=of_decide_eq_true hx; have:=h.1; omega
theorem cz_d:decide (0+x.1.toNat < x.1.toNat)=false:=decide_eq_false (by omega)
theorem cz_w (hn:n<=1000000) (h:Hz n kl x) (hx:decide (x.1 < (n:Int))=true):0+x.1.toNat+1=(i64.wrap (x.1+O 1)).toNat:=by
 have h1:=of_decide_eq_true hx
 have h2:=h.1
 rw [show i64.wrap (x.1+O 1)=x.1+1 from w64 (by simp only [Int.ofNat_eq_natCast]; omega)]
 omega
theorem cz_f (hw:kl (0+x.1.toNat)<=w) (h:Hz n kl x):∀ e,e < x.1.toNat+1->kl e<=if 0=0/\e=0+x.1.toNat then w else x.2 e:=fun e he=>by
 split
 ·rename_i g; rw [g.2]; exact hw
 ·rename_i g; exact h.2.2 e (by have:¬ e=0+x.1.toNat:=fun q=>g ⟨rfl,q⟩; omega)
theorem cz_s (hn:n<=1000000) (h:Hz n kl x) (hx:decide (x.1 < (n:Int))=true) (hw:kl (0+x.1.toNat)<=w):O 0<=i64.wrap (x.1+O 1)/\i64.wrap (x.1+O 1)<=(n:Int)/\∀ e,e < (i64.wrap (x.1+O 1)).toNat->kl e<=if 0=0/\e=0+x.1.toNat then w else x.2 e:=by
 have h1:=of_decide_eq_true hx
 have h2:=h.1
 have e1:i64.wrap (x.1+O 1)=x.1+1:=w64 (by simp only [Int.ofNat_eq_natCast]; omega)
 refine ⟨?_,?_,fun e he=>cz_f hw h e ?_⟩
 ·rw [e1]; simp only [Int.ofNat_eq_natCast]; omega
 ·rw [e1]; omega
 ·rw [e1] at he; omega
theorem cz_m (hn:n<=1000000) (h:Hz n kl x) (hx:decide (x.1 < (n:Int))=true):n - (i64.wrap (x.1+O 1)).toNat < n - x.1.toNat:=by
 have:=cz_w hn h hx
 have:=cz_n h hx
 omega
theorem cz_g1 (hn:n<=1000000) (h:Hz n kl x) (hx:decide (x.1 < (n:Int))=true) {i:Nat}:(if i=0+x.1.toNat then w else gd x.1.toNat x.2 i)=gd (i64.wrap (x.1+O 1)).toNat (aN (0+x.1.toNat) w x.2) i\/gd (i64.wrap (x.1+O 1)).toNat (aN (0+x.1.toNat) w x.2) i=0:=by
 left
 rw [<- cz_w hn h hx]
 unfold gd aN
 by_cases e:i=0+x.1.toNat
 ·rw [if_pos e,if_pos (by omega),if_pos ⟨rfl,e⟩]
 ·rw [if_neg e]
  by_cases g:i < x.1.toNat
  ·rw [if_pos g,if_pos (by omega),if_neg (fun q=>e q.2)]
  ·rw [if_neg g,if_neg (by omega)]
theorem cz_g2 (hn:n<=1000000) (h:Hz n kl x) (hx:decide (x.1 < (n:Int))=true) (hw:kl (0+x.1.toNat)<=w) {i:Nat}:gd (i64.wrap (x.1+O 1)).toNat kl i<=gd (i64.wrap (x.1+O 1)).toNat (aN (0+x.1.toNat) w x.2) i/\gd (i64.wrap (x.1+O 1)).toNat kl i<=if i=0+x.1.toNat then kl (0+x.1.toNat) else gd x.1.toNat kl i:=by
 rw [<- cz_w hn h hx]
 refine ⟨?_,?_⟩
 ·unfold gd
  by_cases g:i < 0+x.1.toNat+1
  ·rw [if_pos g,if_pos g]
   exact cz_f hw h i (by omega)
  ·rw [if_neg g]; exact Nat.zero_le _
 ·unfold gd
  by_cases e:i=0+x.1.toNat
  ·rw [if_pos e,if_pos (by omega),e]; exact Z _
  ·rw [if_neg e]
   by_cases g:i < x.1.toNat
   ·rw [if_pos g,if_pos (by omega)]; exact Z _
   ·rw [if_neg g,if_neg (by omega)]; exact Z _
theorem cz_e (h:Hz n kl x) (hx:decide (x.1 < (n:Int))=false):x.1.toNat=n:=by have:=of_decide_eq_false hx; have:=h.1; have:=h.2.1; omega
theorem cz_g3 (h:Hz n kl x) (hx:decide (x.1 < (n:Int))=false) {i:Nat}:gd x.1.toNat x.2 i=gd n x.2 i\/gd n x.2 i=0:=.inl (by rw [cz_e h hx])
theorem cz_g4 (h:Hz n kl x) (hx:decide (x.1 < (n:Int))=false) {i:Nat}:gd n kl i<=gd n x.2 i/\gd n kl i<=gd x.1.toNat kl i:=by
 have e:=cz_e h hx
 refine ⟨?_,by rw [e]; exact Z _⟩
 unfold gd
 split
 ·exact h.2.2 i (by omega)
 ·exact Z _
theorem cz_if {i e:Nat} {f:Nat->Nat} {k:Nat}:(if i=0/\e=k then f k else f e)=f e:=by
 split
 ·rename_i g; rw [g.2]
 ·rfl
theorem cz_if2 {i e:Nat} {f:Nat->Nat->Int} {k:Nat}:(if i=k then f k e else f i e)=f i e:=by
 split
 ·rename_i g; rw [g]
 ·rfl
theorem cz_if3 {i e k:Nat} {p q:Prop} {a b:Nat} (h:(i=0/\p)/\q):(if i=0/\e=k then a else b)=if 0=0/\e=k then a else b:=by rw [h.1.1]
theorem cz_gd {c d:Cf} (h:IsCl c d) {i:Nat}:gd d.nP d.lenP i<=gd d.nP d.FC i/\gd d.nP d.lenP i<=gd d.nP d.lenP i:=by
 obtain ⟨FC,rc,cu,hcl,rfl⟩:=h
 exact ⟨Vc.gd_le hcl.1 i,Z _⟩
end
theorem vhCz {c:Cf} {v:Ev} {l:El} {le:Nat} (h:preCz v l):zae (vCz c v l le):=by
 obtain ⟨hE,hn,hx,hl⟩:=h
 have hxn:=hx.1
 have hxl:=hx.2
 refine zae.pr (vCz_eq ..) ?_
 (with_reducible repeat' first | exact V.okI | refine V.brT ?_ | refine V.brF ?_ | refine V.brI ?_ ?_ | refine V.anyI ?_ | refine nN_h rfl ?_ | refine V.needI ?_ ?_ | intro _)
 all_goals first
  | assumption
  | exact True.intro
  | (rename_i hz hb; have h1:=cz_e hz hb; exact ⟨by assumption,by assumption,by assumption,fun e he=>hz.2.2 e (by omega),by assumption⟩)
  | exact ⟨_,is_cl _⟩
  | exact ⟨_,Z _⟩
  | exact cz_0
  | exact Nat.not_lt_zero _
  | exact cz_i ‹_› ‹_›
  | exact ⟨Nat.zero_lt_one,cz_n ‹_› ‹_›⟩
  | exact cz_n ‹_› ‹_›
  | exact cz_d
  | exact on_le _
  | exact hxl _
  | exact ⟨trivial,(Nat.zero_add _).symm,fun _ _ h=>h.1,fun e h=>Nat.ne_of_lt h⟩
  | exact cz_w hxn ‹_› ‹_›
  | exact cz_s hxn ‹_› ‹_› ‹_›
  | exact cz_m hxn ‹_› ‹_›
  | exact cz_g1 hxn ‹_› ‹_›
  | exact cz_g2 hxn ‹_› ‹_› ‹_›
  | exact cz_g3 ‹_› ‹_›
  | exact cz_g4 ‹_› ‹_›
  | exact cz_if
  | exact cz_if2
  | exact cz_if3 ‹_›
  | exact .inl rfl
  | exact cz_gd ‹_›
  | exact ⟨by simp [gd],by simp [gd]⟩
  | exact .inl (by simp [gd])
  | (have h1:=cz_e ‹_› ‹_›; omega)
  | trace_state
theorem lCz {c:Cf} {v:Ev} {l:El} {le:Nat}:zah P fCz [.c (.ptr 0 (.k 0) (.k 0) 0 26)] (hCz c v l le) 10 (.need (preCz v l) (.any (Cf×Rm) (okCz v l) fun q=>.leaf (svCz,⟨hCzR c v l q,20,fun _=>True⟩))):=zad cnCz_ok fun h=>vhCz h
theorem cCz_ok:zab P fCz cCz:=zac fun args H=>by
 unfold cCz
 simp only [fN_eq]
 repeat' split
 all_goals first
  | exact .inl ⟨_,rfl⟩
  | with_reducible exact .inr ⟨_,_,_,_,_,rfl,lCz⟩
end Go.Proofs.YtfkdlkidflgalaaGreat.En
