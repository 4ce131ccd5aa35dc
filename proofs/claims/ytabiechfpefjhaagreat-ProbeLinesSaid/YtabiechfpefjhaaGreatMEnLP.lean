/- A part of the proof. -/
import Derived.Test.YtabiechfpefjhaaGreatMEnPv
import Derived.Test.YtabiechfpefjhaaGreatMMdAw22
import Derived.Test.YtabiechfpefjhaaGreatMEnG
import Derived.Test.YtabiechfpefjhaaGreatMEg
import Derived.Test.YtabiechfpefjhaaGreatMW
import Derived.Test.YtabiechfpefjhaaGreatMV
set_option maxHeartbeats 64000000
set_option linter.unusedVariables false
set_option linter.unusedSimpArgs false
set_option maxRecDepth 100000
open Go.IntKind (i64 u64)
open Int renaming ofNat -> O
open Nat renaming le_of_ble_eq_true -> zb
open Go.Proofs.YtabiechfpefjhaaGreat.Sx.V renaming need -> U
namespace Go.Proofs.YtabiechfpefjhaaGreat.En
open Go Go.RowKit Sx Cn Dc Ck Vc Md
noncomputable section
def fLPv:FuncId:=3
def conLPv:Con:=Con.add 9 conYes (Con.add 26 conDec (Con.add fSc cSc (Con.add fEv cEvS (Con.add fMt cPv con0))))
def verLPv(g0 g1 g2 g3:Nat->Int)(l0 c0 l1 c1 l2 c2 l3 c3:Nat)(d t:Int)(near:Bool):V:=verF P conLPv 6 8 fLPv [] (.cut 3005 Int (laN1 4) .nil .nil)
 [.c (slK 0 1 l0 c0),.c (slK 1 1 l1 c1),.c (slK 2 1 l2 c2),.c (slK 3 1 l3 c3),iv d,iv t,.c (.bv near)] ⟨[(0,ints .u8 l0 g0),(1,ints .u8 l1 g1),(2,ints .i64 l2 g2),(3,ints .i64 l3 g3)],4,fun _=>True⟩ yesV
end
abbrev znlp0(a0:Nat)(a1:Nat->Int)(l:LP):LP:=(1,.pf (∀(i:Nat),i<1->a0<=a0) (by intros;exact Nat.le_refl _))::(1,.pf (∀(i e:Nat),i<1/\e<a0->a1 e=a1 e) (by intros;rfl))::l
abbrev znlp1(a0:Rk)(l:LP):LP:=(1,.pf (∀(i e:Nat),i=0/\e<a0.n->a0.pa e=a0.pa e) (by intros;rfl))::(1,.pf (∀(i e:Nat),i=0/\e<a0.n->a0.pc e=a0.pc e) (by intros;rfl))::l
abbrev znlp2(a0:Rk)(l:LP):LP:=(1,.pf (∀(i e:Nat),i=0/\e<a0.n->a0.lf e=a0.lf e) (by intros;rfl))::(1,.pf (∀(i e:Nat),i=0/\e<a0.n->a0.wt e=a0.wt e) (by intros;rfl))::l
abbrev znlp3(a0:Rk)(a1:Rm)(k:V):V:=U (∀(i:Nat),i<a0.n->a0.kl i<=upto a0.n a0.kl i/\a0.kl i<=a1.k i) (nN [(1,.pf (∀(i e:Nat),i<a0.n/\e<a0.kl i->a0.kd i e=a0.kd i e) (by intros;rfl))] k)
abbrev znlp4(a0:Rk)(l:LP):LP:=(1,.pf (∀(i e:Nat),i=0/\e<a0.n->e=e) (by intros;rfl))::(1,.pf (∀(i e:Nat),i=0/\e<a0.n->a0.kl e=a0.kl e) (by intros;rfl))::l
abbrev znlp5(a0:Rk)(a1:Rm)(l:LP):LP:=(1,.pf (∀(i e:Nat),i=0/\e<a0.n->a1.k e=a1.k e) (by intros;rfl))::(1,.pf (∀(i e:Nat),i=0/\e<a0.n->a0.st e=a0.st e) (by intros;rfl))::l
abbrev znlp6(a0:Rm)(k:V):V:=U (0<=0/\0<=a0.e) (nN [(5,.pf (∀(i e:Nat),i=0/\e<0->O 0=O 0) (by intros;rfl))] k)
abbrev znlp7(a0:Rk)(a1:Rm)(k:V):V:=U (a0.n<=a0.n/\a0.n<=a1.r) (nN [(1,.pf (∀(i e:Nat),i=0/\e<a0.n->a0.p e=a0.p e) (by intros;rfl))] k)
theorem verLPv_eq(g0 g1 g2 g3:Nat->Int)(l0 c0 l1 c1 l2 c2 l3 c3:Nat)(d t:Int)(near:Bool):V.pr .z (verLPv g0 g1 g2 g3 l0 c0 l1 c1 l2 c2 l3 c3 d t near)=
 nN [(2,.lt 0 2)] (V.br (decide ((↑l2:Int)>O 400)) (V.ok) (nN [(2,.lt 1 2)] (V.br (decide ((↑l3:Int)>O 400)) (V.ok) (V.br (!decide ((↑l0:Int)<=O 400)) (V.ok) (V.br (decide ((↑l1:Int)>O 600)) (V.ok) (nN [qE d] (V.any Bool (fun (x:Bool)=>True) fun y0=>V.br y0 (V.br near (nN [(1,.neI 1 0),(2,.lt2 0 1 0 1),(1,.neI 1 0),(1,.neI 7 0),(1,.neI 1 0),(1,.neI 5 0)] (V.br (decide ((i64.wrap (d.tdiv (O 1))).tmod (O 5)<O 0)) (nN [(1,.neI 5 0)] (U True (nN [qE (i64.wrap ((i64.wrap (d.tdiv (O 1))).tmod (O 5)+O 5))] (V.ok)))) (nN [(1,.neI 5 0)] (U True (nN [qE ((i64.wrap (d.tdiv (O 1))).tmod (O 5))] V.ok))))) (U True (nN [qE d] V.ok))) (V.any Int (fun (x:Int)=>True) fun y1=>nN (qE l0::qE c0::(1,.le 1 1)::znlp0 l0 g0 []) (U (U8 l0 fun (e:Nat)=>g0 e) (nA (IsDec g0 l0) fun y2=>nN (qE l1::qE c1::(1,.eqI 300 300)::(1,.le 1 1)::znlp0 l1 g1 []) (U (l1<=1000000/\O 0<=O 300) (nA (okSc (O 300)) fun y3=>nN [qE y2.W,qE y2.L,qE y2.C,qE y2.T,qE y2.D,qE y2.H,qE y2.B,qE y2.A,qE y2.P,qE y2.nP,qE y2.rc,qE y2.nU,qE y2.cu,qE y3.n,qE y3.cap,qE l2,qE c2,(1,.le 1 1)] (U (y2.nP<=y2.nP/\y2.nP<=y2.rc) (nN [(1,.pf (∀(i e:Nat),i=0/\e<y2.nP->e=e) (by intros;rfl)),(1,.pf (∀(i e:Nat),i=0/\e<y2.nP->y2.lenP e=y2.lenP e) (by intros;rfl)),(1,.pf (∀(i e:Nat),i=0/\e<y2.nP->y2.FC e=y2.FC e) (by intros;rfl)),(1,.le 1 1)] (U (y2.nU<=y2.nU/\y2.nU<=y2.cu) (nN [(1,.pf (∀(i e:Nat),i=0/\e<y2.nU->y2.uP e=y2.uP e) (by intros;rfl)),(1,.pf (∀(i e:Nat),i=0/\e<y2.nU->y2.uL e=y2.uL e) (by intros;rfl)),(1,.pf (∀(i e:Nat),i=0/\e<y2.nU->y2.uD e=y2.uD e) (by intros;rfl))] (U (∀(i:Nat),i<y2.nP->y2.lenP i<=gd y2.nP y2.lenP i/\y2.lenP i<=gd y2.nP y2.FC i) (nN [(1,.pf (∀(i e:Nat),i<y2.nP/\e<y2.lenP i->y2.iO i e=y2.iO i e) (by intros;rfl)),(1,.pf (∀(i e:Nat),i<y2.nP/\e<y2.lenP i->y2.iA i e=y2.iA i e) (by intros;rfl)),(1,.pf (∀(i e:Nat),i<y2.nP/\e<y2.lenP i->y2.iB i e=y2.iB i e) (by intros;rfl)),(1,.le 1 1)] (U (y3.n<=y3.n/\y3.n<=y3.cap) (nN ((1,.pf (∀(i e:Nat),i=0/\e<y3.n->y3.ka e=y3.ka e) (by intros;rfl))::(1,.pf (∀(i e:Nat),i=0/\e<y3.n->y3.va e=y3.va e) (by intros;rfl))::(1,.le 1 1)::znlp0 l2 g2 []) (U (preEv y2 y3.n) (nA (okEv y2) fun y4=>U True (nN [qE l3,qE c3] (U (y4.d.W=y2.W) (U (y4.d.L=y2.L) (U (y4.d.C=y2.C) (U (y4.d.T=y2.T) (U (y4.d.D=y2.D) (U (y4.d.H=y2.H) (U (y4.d.B=y2.B) (U (y4.d.A=y2.A) (U (y4.d.P=y2.P) (nN [qE y2.W,qE y2.L,qE y2.C,qE y2.T,qE y2.D,qE y2.H] (U (lS y2=lS { y2 with lenP:=fun (x:Nat)=>0,FC:=fun (x:Nat)=>0,iO:=fun (x x_4:Nat)=>O 0,iA:=fun (x x_4:Nat)=>O 0,iB:=fun (x x_4:Nat)=>O 0,uP:=fun (x:Nat)=>O 0,uL:=fun (x:Nat)=>O 0,uD:=fun (x:Nat)=>O 0 }) (U (lE y2=lE { y2 with lenP:=fun (x:Nat)=>0,FC:=fun (x:Nat)=>0,iO:=fun (x x_4:Nat)=>O 0,iA:=fun (x x_4:Nat)=>O 0,iB:=fun (x x_4:Nat)=>O 0,uP:=fun (x:Nat)=>O 0,uL:=fun (x:Nat)=>O 0,uD:=fun (x:Nat)=>O 0 }) (U (lB y2=lB { y2 with lenP:=fun (x:Nat)=>0,FC:=fun (x:Nat)=>0,iO:=fun (x x_4:Nat)=>O 0,iA:=fun (x x_4:Nat)=>O 0,iB:=fun (x x_4:Nat)=>O 0,uP:=fun (x:Nat)=>O 0,uL:=fun (x:Nat)=>O 0,uD:=fun (x:Nat)=>O 0 }) (U (lQ y2=lQ { y2 with lenP:=fun (x:Nat)=>0,FC:=fun (x:Nat)=>0,iO:=fun (x x_4:Nat)=>O 0,iA:=fun (x x_4:Nat)=>O 0,iB:=fun (x x_4:Nat)=>O 0,uP:=fun (x:Nat)=>O 0,uL:=fun (x:Nat)=>O 0,uD:=fun (x:Nat)=>O 0 }) (U (lT y2=lT { y2 with lenP:=fun (x:Nat)=>0,FC:=fun (x:Nat)=>0,iO:=fun (x x_4:Nat)=>O 0,iA:=fun (x x_4:Nat)=>O 0,iB:=fun (x x_4:Nat)=>O 0,uP:=fun (x:Nat)=>O 0,uL:=fun (x:Nat)=>O 0,uD:=fun (x:Nat)=>O 0 }) (nN [qE y4.x.n,qE y4.a.r,(1,.eq 0 0),qE y4.a.e,qE y4.n,qE y4.a.c,qE y4.m.lk,qE y4.m.lc,qE y4.m.lo,qE y4.m.ln,qE y4.m.ct,qE y4.a.c,qL y4.n,qF y4.n y4.m.g,qE y4.now,qE t,(1,.le 1 1)] (znlp7 y4.x y4.a (nN (znlp1 y4.x (znlp2 y4.x (znlp4 y4.x (znlp5 y4.x y4.a [])))) (znlp3 y4.x y4.a (nN [(1,.le 1 1)] (znlp6 y4.a (nN [qE y2.W,qE y2.L,qE y2.C,qE y2.T,qE y2.D,qE y2.H,qE y2.B,qE y2.A,qE y2.P,qE y2.nP,qE y2.rc,qE y2.nU,qE y2.cu,qE y4.n,qE y4.b.c,qE y4.m.lk,qE y4.m.lc,qE y4.m.lo,qE y4.m.ln,qE y4.m.ct,qE y4.now,qE t,qE y4.x.n,qE y4.b.r,(1,.eq 0 0),qE y4.b.e,qE y4.b.c,qL y4.n,qF y4.n y4.m.g,(1,.le 1 1)] (znlp7 y4.x y4.b (nN (znlp1 y4.x (znlp2 y4.x (znlp4 y4.x (znlp5 y4.x y4.b [])))) (znlp3 y4.x y4.b (nN [(1,.le 1 1)] (znlp6 y4.b (nN [(1,.le 0 1)] (U (0<=y2.nP/\0<=y2.rc) (nN [(1,.le 0 1)] (U (0<=y2.nU/\0<=y2.cu) (nN (qE false::(2,.eqI 0 0)::qE y1::qE false::(18,.eqI 0 0)::(2,.eq 1 1)::(1,.le 1 1)::(1,.eqI 1 1)::qE y1::(4,.eqI 0 0)::(1,.le 1 1)::znlp0 l3 g3 []) (U (okMq { y2 with lenP:=fun (x:Nat)=>0,FC:=fun (x:Nat)=>0,iO:=fun (x x_4:Nat)=>O 0,iA:=fun (x x_4:Nat)=>O 0,iB:=fun (x x_4:Nat)=>O 0,uP:=fun (x:Nat)=>O 0,uL:=fun (x:Nat)=>O 0,uD:=fun (x:Nat)=>O 0 } { y4 with d:={ y2 with lenP:=fun (x:Nat)=>0,FC:=fun (x:Nat)=>0,iO:=fun (x x_4:Nat)=>O 0,iA:=fun (x x_4:Nat)=>O 0,iB:=fun (x x_4:Nat)=>O 0,uP:=fun (x:Nat)=>O 0,uL:=fun (x:Nat)=>O 0,uD:=fun (x:Nat)=>O 0 },dr:=t }) V.ok)))))))))))))))))))))))))))))))))))))))))))))))))))))))):=by kernel_rfl
theorem vhLPv{g0 g1 g2 g3:Nat->Int}{l0 c0 l1 c1 l2 c2 l3 c3:Nat}{d t:Int}{near:Bool}(hu:U8 l0 g0):zad (verLPv g0 g1 g2 g3 l0 c0 l1 c1 l2 c2 l3 c3 d t near):=by
 refine zad.pr (verLPv_eq ..) ?_
 (with_reducible repeat' first|exact V.okI|refine V.brT ?_|refine V.brF ?_|refine V.brI ?_ ?_|refine V.anyI ?_|refine nN_h rfl ?_|refine V.needI ?_ ?_|intro _)
 all_goals first
  | rfl
  | exact True.intro
  | assumption
  | exact Nat.le_refl _
  | exact ex_dec hu
  | exact ex_sc
  | exact⟨Nat.zero_le _,Nat.zero_le _⟩
  | exact(dec_rc ‹_›).1
  | exact(dec_rc ‹_›).2
  | exact dec_gd ‹_› ‹_›
  | exact⟨Nat.le_refl _,And.left (by assumption:okSc _ _)⟩
  | exact dec_pre hu ‹_› ‹_› (by decide)
  | exact ev_ex (dec_Y hu ‹_›)
  | exact(ev_d ‹_›).1
  | exact(ev_d ‹_›).2.1
  | exact(ev_d ‹_›).2.2.1
  | exact(ev_d ‹_›).2.2.2.1
  | exact(ev_d ‹_›).2.2.2.2.1
  | exact(ev_d ‹_›).2.2.2.2.2.1
  | exact(ev_d ‹_›).2.2.2.2.2.2.1
  | exact(ev_d ‹_›).2.2.2.2.2.2.2.1
  | exact(ev_d ‹_›).2.2.2.2.2.2.2.2
  | exact ev_ra ‹_›
  | exact ev_rb ‹_›
  | exact ev_ka ‹_› ‹_›
  | exact ev_kb ‹_› ‹_›
  | exact s_len ‹_› (by decide)
  | (rename_i D hD S hS V hV;exact dec_mq hu hD hV ⟨⟨rfl,rfl,rfl⟩,rfl,rfl,rfl⟩)
  | trace_state
theorem conLPv_ok:zaj P conLPv:=.add aw22_ok (.add conDec_ok (.add cSc_ok (.add cEvS_ok (.add cPv_ok zaj.nil))))
theorem walkLPv(a0:Option Addr)(l0 c0:Nat)(g0:Nat->Int)(a1:Option Addr)(l1 c1:Nat)(g1:Nat->Int)(a2:Option Addr)(l2 c2:Nat)(g2:Nat->Int)(a3:Option Addr)(l3 c3:Nat)(g3:Nat->Int)(d:Int)(t:Int)(near:Bool)(W:World)(h0:zez .u8 W a0 l0 c0 g0)(h1:zez .u8 W a1 l1 c1 g1)(h2:zez .i64 W a2 l2 c2 g2)(h3:zez .i64 W a3 l3 c3 g3)(h4:(Lit.int .i64 d).wf=true)(h5:(Lit.int .i64 t).wf=true):
  Calls P fLPv #[.slice a0 l0 c0,.slice a1 l1 c1,.slice a2 l2 c2,.slice a3 l3 c3,.int .i64 d,.int .i64 t,.bool near] W fun e w'=>e=.returned (.bool true)/\Below W.heap.size W w':=by
 refine calls_yesV (vs:=[.slice a0 l0 c0,.slice a1 l1 c1,.slice a2 l2 c2,.slice a3 l3 c3,.int .i64 d,.int .i64 t,.bool near]) conLPv_ok (ρ:=fun k i=>if i=0 then(if k=0 then addr0 a0 else if k=1 then addr0 a1 else if k=2 then addr0 a2 else if k=3 then addr0 a3 else none) else none) (vhLPv (g0:=g0) (g1:=g1) (g2:=g2) (g3:=g3) (l0:=l0) (c0:=c0) (l1:=l1) (c1:=c1) (l2:=l2) (c2:=c2) (l3:=l3) (c3:=c3) (d:=d) (t:=t) (near:=near) (fun e he=>u8i (h0.fits e he))) (views_inv fun k b' hk=>?_) ⟨h0.val (by simp) ⟨zb rfl,trivial⟩,h1.val (by simp) ⟨zb rfl,trivial⟩,h2.val (by simp) ⟨zb rfl,trivial⟩,h3.val (by simp) ⟨zb rfl,trivial⟩,fun _ _=>rfl,fun _ _=>rfl,fun _ _=>rfl,trivial⟩
 rw[zag]at hk
 split at hk
 ·rename_i e;subst e
  cases hk
  exact⟨rfl,by decide,h0.sat (by simp)⟩
 rw[zag]at hk
 split at hk
 ·rename_i e;subst e
  cases hk
  exact⟨rfl,by decide,h1.sat (by simp)⟩
 rw[zag]at hk
 split at hk
 ·rename_i e;subst e
  cases hk
  exact⟨rfl,by decide,h2.sat (by simp)⟩
 rw[zag]at hk
 split at hk
 ·rename_i e;subst e
  cases hk
  exact⟨rfl,by decide,h3.sat (by simp)⟩
 ·cases hk
end Go.Proofs.YtabiechfpefjhaaGreat.En
