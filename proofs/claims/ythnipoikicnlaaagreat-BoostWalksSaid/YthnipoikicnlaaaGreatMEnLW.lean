/- BoostWalks: the law: what is asked. -/
import Derived.Test.YthnipoikicnlaaaGreatMEnWk
import Derived.Test.YthnipoikicnlaaaGreatMMdAw19
import Derived.Test.YthnipoikicnlaaaGreatMEnG
import Derived.Test.YthnipoikicnlaaaGreatMEg
import Derived.Test.YthnipoikicnlaaaGreatMW
import Derived.Test.YthnipoikicnlaaaGreatMV
set_option maxHeartbeats 64000000
set_option linter.unusedVariables false
set_option linter.unusedSimpArgs false
set_option maxRecDepth 100000
open Go.IntKind (i64 u64)
open Int renaming ofNat -> O
open Nat renaming le_of_ble_eq_true -> zg
open Go.Proofs.YthnipoikicnlaaaGreat.Sx.V renaming need -> U
namespace Go.Proofs.YthnipoikicnlaaaGreat.En
open Go Go.RowKit Sx Cn Dc Ck Vc Md
noncomputable section
def fLWk:FuncId:=3
def conLWk:Con:=Con.add 9 conYes (Con.add 26 conDec (Con.add fSc cSc (Con.add fEv cEvS (Con.add fMt cWk con0))))
def verLWk (g0 g1 g2 g3:Nat->Int) (l0 c0 l1 c1 l2 c2 l3 c3:Nat) (d t q:Int) (near:Bool):V:=verF P conLWk 6 8 fLWk [] (.cut 3005 (Int×Int×Int) (laN3 4 5 6) .nil .nil)
 [.c (slK 0 1 l0 c0),.c (slK 1 1 l1 c1),.c (slK 2 1 l2 c2),.c (slK 3 1 l3 c3),iv d,iv t,iv q,.c (.bv near)] ⟨[(0,ints .u8 l0 g0),(1,ints .u8 l1 g1),(2,ints .i64 l2 g2),(3,ints .i64 l3 g3)],4,fun _=>True⟩ yesV
end
abbrev znlw0 (a0:Nat) (a1:Nat->Int) (l:LP):LP:=(1,.pf (∀ (i:Nat),i < 1->a0<=a0) (by intros; exact Nat.le_refl _))::(1,.pf (∀ (i e:Nat),i < 1/\e < a0->a1 e=a1 e) (by intros; rfl))::l
abbrev znlw1 (a0:Int) (k:V):V:=U True (nN [qE (i64.wrap ((i64.wrap (a0.tdiv (O 1))).tmod (O 5)+O 5))] k)
abbrev znlw9 (a0 a1:Int) (l:LP):LP:=qE (i64.wrap ((i64.wrap (a0.tdiv (O 1))).tmod (O 12)+O 12))::qE ((i64.wrap (a1.tdiv (O 1))).tmod (O 5))::l
abbrev znlw10 (a0 a1:Int) (l:LP):LP:=qE ((i64.wrap (a0.tdiv (O 1))).tmod (O 12))::qE (i64.wrap ((i64.wrap (a1.tdiv (O 1))).tmod (O 5)+O 5))::l
abbrev znlw11 (a0:Rk) (a1:Rm) (l:LP):LP:=(1,.pf (∀ (i e:Nat),i=0/\e < a0.n->a1.k e=a1.k e) (by intros; rfl))::(1,.pf (∀ (i e:Nat),i=0/\e < a0.n->a0.st e=a0.st e) (by intros; rfl))::l
abbrev znlw12 (a0 a1:Int) (l:LP):LP:=qE ((i64.wrap (a0.tdiv (O 1))).tmod (O 12))::qE ((i64.wrap (a1.tdiv (O 1))).tmod (O 5))::l
abbrev znlw13 (a0:Rk) (a1:Rm) (k:V):V:=U (a0.n<=a0.n/\a0.n<=a1.r) (nN [(1,.pf (∀ (i e:Nat),i=0/\e < a0.n->a0.p e=a0.p e) (by intros; rfl))] k)
abbrev znlw14 (l:LP):LP:=(1,.neI 1 0)::(2,.lt2 0 1 0 1)::(1,.neI 1 0)::(1,.neI 7 0)::(1,.neI 1 0)::l
abbrev znlw15 (l:LP):LP:=znlw14 ((1,.neI 5 0)::l)
abbrev znlw16 (l:LP):LP:=(1,.neI 12 0)::znlw15 l
abbrev znlw2 (a0:Int) (k:V):V:=U True (nN [qE ((i64.wrap (a0.tdiv (O 1))).tmod (O 5))] k)
abbrev znlw3 (l:LP):LP:=qF 0 (fun (e:Nat)=>O 0)::qF 0 (fun (e:Nat)=>O 0)::l
abbrev znlw4 (a0 a1:Int) (l:LP):LP:=qE (i64.wrap ((i64.wrap (a0.tdiv (O 1))).tmod (O 12)+O 12))::qE (i64.wrap ((i64.wrap (a1.tdiv (O 1))).tmod (O 5)+O 5))::l
abbrev znlw5 (a0:Rk) (l:LP):LP:=(1,.pf (∀ (i e:Nat),i=0/\e < a0.n->a0.pa e=a0.pa e) (by intros; rfl))::(1,.pf (∀ (i e:Nat),i=0/\e < a0.n->a0.pc e=a0.pc e) (by intros; rfl))::l
abbrev znlw6 (a0:Rk) (l:LP):LP:=(1,.pf (∀ (i e:Nat),i=0/\e < a0.n->a0.lf e=a0.lf e) (by intros; rfl))::(1,.pf (∀ (i e:Nat),i=0/\e < a0.n->a0.wt e=a0.wt e) (by intros; rfl))::l
abbrev znlw7 (a0:Rk) (a1:Rm) (k:V):V:=U (∀ (i:Nat),i < a0.n->a0.kl i<=upto a0.n a0.kl i/\a0.kl i<=a1.k i) (nN [(1,.pf (∀ (i e:Nat),i < a0.n/\e < a0.kl i->a0.kd i e=a0.kd i e) (by intros; rfl))] k)
abbrev znlw8 (a0:Rk) (l:LP):LP:=(1,.pf (∀ (i e:Nat),i=0/\e < a0.n->e=e) (by intros; rfl))::(1,.pf (∀ (i e:Nat),i=0/\e < a0.n->a0.kl e=a0.kl e) (by intros; rfl))::l
theorem verLWk_eq (g0 g1 g2 g3:Nat->Int) (l0 c0 l1 c1 l2 c2 l3 c3:Nat) (d t q:Int) (near:Bool):V.pr .z (verLWk g0 g1 g2 g3 l0 c0 l1 c1 l2 c2 l3 c3 d t q near)=
 nN [(2,.lt 0 2)] (V.br (decide ((↑l2:Int) > O 400)) (V.ok) (nN [(2,.lt 1 2)] (V.br (decide ((↑l3:Int) > O 400)) (V.ok) (V.br (!decide ((↑l0:Int)<=O 400)) (V.ok) (V.br (decide ((↑l1:Int) > O 600)) (V.ok) (nN [qE d,qE t,qE q] (V.any Bool (fun (x:Bool)=>True) fun y0=>V.br y0 (V.br near (nN (znlw15 []) (V.br (decide ((i64.wrap (d.tdiv (O 1))).tmod (O 5) < O 0)) (nN ((1,.neI 5 0)::znlw14 [(1,.neI 12 0)]) (V.br (decide ((i64.wrap (t.tdiv (O 1))).tmod (O 12) < O 0)) (nN (znlw16 []) (V.br (decide ((i64.wrap (q.tdiv (O 1))).tmod (O 5) < O 0)) (nN [(1,.neI 5 0)] (znlw1 d (nN (znlw4 t q []) V.ok))) (nN [(1,.neI 5 0)] (znlw1 d (nN (znlw9 t q []) V.ok))))) (nN (znlw16 []) (V.br (decide ((i64.wrap (q.tdiv (O 1))).tmod (O 5) < O 0)) (nN [(1,.neI 5 0)] (znlw1 d (nN (znlw10 t q []) V.ok))) (nN [(1,.neI 5 0)] (znlw1 d (nN (znlw12 t q []) V.ok))))))) (nN ((1,.neI 5 0)::znlw14 [(1,.neI 12 0)]) (V.br (decide ((i64.wrap (t.tdiv (O 1))).tmod (O 12) < O 0)) (nN (znlw16 []) (V.br (decide ((i64.wrap (q.tdiv (O 1))).tmod (O 5) < O 0)) (nN [(1,.neI 5 0)] (znlw2 d (nN (znlw4 t q []) V.ok))) (nN [(1,.neI 5 0)] (znlw2 d (nN (znlw9 t q []) V.ok))))) (nN (znlw16 []) (V.br (decide ((i64.wrap (q.tdiv (O 1))).tmod (O 5) < O 0)) (nN [(1,.neI 5 0)] (znlw2 d (nN (znlw10 t q []) V.ok))) (nN [(1,.neI 5 0)] (znlw2 d (nN (znlw12 t q []) V.ok))))))))) (U True (nN [qE d,qE t,qE q] V.ok))) (V.any (Int×Int×Int) (fun (x:Int×Int×Int)=>True) fun y1=>nN (qE l0::qE c0::(1,.le 1 1)::znlw0 l0 g0 []) (U (U8 l0 fun (e:Nat)=>g0 e) (nA (zc5 g0 l0) fun y2=>nN (qE l1::qE c1::(1,.eqI 300 300)::(1,.le 1 1)::znlw0 l1 g1 []) (U (l1<=1000000/\O 0<=O 300) (nA (okSc (O 300)) fun y3=>nN [qE y2.W,qE y2.L,qE y2.C,qE y2.T,qE y2.D,qE y2.H,qE y2.B,qE y2.A,qE y2.P,qE y2.nP,qE y2.rc,qE y2.nU,qE y2.cu,qE y3.n,qE y3.cap,qE l2,qE c2,(1,.le 1 1)] (U (y2.nP<=y2.nP/\y2.nP<=y2.rc) (nN [(1,.pf (∀ (i e:Nat),i=0/\e < y2.nP->e=e) (by intros; rfl)),(1,.pf (∀ (i e:Nat),i=0/\e < y2.nP->y2.lenP e=y2.lenP e) (by intros; rfl)),(1,.pf (∀ (i e:Nat),i=0/\e < y2.nP->y2.FC e=y2.FC e) (by intros; rfl)),(1,.le 1 1)] (U (y2.nU<=y2.nU/\y2.nU<=y2.cu) (nN [(1,.pf (∀ (i e:Nat),i=0/\e < y2.nU->y2.uP e=y2.uP e) (by intros; rfl)),(1,.pf (∀ (i e:Nat),i=0/\e < y2.nU->y2.uL e=y2.uL e) (by intros; rfl)),(1,.pf (∀ (i e:Nat),i=0/\e < y2.nU->y2.uD e=y2.uD e) (by intros; rfl))] (U (∀ (i:Nat),i < y2.nP->y2.lenP i<=gd y2.nP y2.lenP i/\y2.lenP i<=gd y2.nP y2.FC i) (nN [(1,.pf (∀ (i e:Nat),i < y2.nP/\e < y2.lenP i->y2.iO i e=y2.iO i e) (by intros; rfl)),(1,.pf (∀ (i e:Nat),i < y2.nP/\e < y2.lenP i->y2.iA i e=y2.iA i e) (by intros; rfl)),(1,.pf (∀ (i e:Nat),i < y2.nP/\e < y2.lenP i->y2.iB i e=y2.iB i e) (by intros; rfl)),(1,.le 1 1)] (U (y3.n<=y3.n/\y3.n<=y3.cap) (nN ((1,.pf (∀ (i e:Nat),i=0/\e < y3.n->y3.ka e=y3.ka e) (by intros; rfl))::(1,.pf (∀ (i e:Nat),i=0/\e < y3.n->y3.va e=y3.va e) (by intros; rfl))::(1,.le 1 1)::znlw0 l2 g2 []) (U (preEv y2 y3.n) (nA (okEv y2) fun y4=>U True (nN [qE l3,qE c3] (U (y4.d.W=y2.W) (U (y4.d.L=y2.L) (U (y4.d.C=y2.C) (U (y4.d.T=y2.T) (U (y4.d.D=y2.D) (U (y4.d.H=y2.H) (U (y4.d.B=y2.B) (U (y4.d.A=y2.A) (U (y4.d.P=y2.P) (nN [qE y2.W,qE y2.L,qE y2.C,qE y2.T,qE y2.D,qE y2.H] (U (lS y2=lS { y2 with lenP:=fun (x:Nat)=>0,FC:=fun (x:Nat)=>0,iO:=fun (x x_4:Nat)=>O 0,iA:=fun (x x_4:Nat)=>O 0,iB:=fun (x x_4:Nat)=>O 0,uP:=fun (x:Nat)=>O 0,uL:=fun (x:Nat)=>O 0,uD:=fun (x:Nat)=>O 0 }) (U (lE y2=lE { y2 with lenP:=fun (x:Nat)=>0,FC:=fun (x:Nat)=>0,iO:=fun (x x_4:Nat)=>O 0,iA:=fun (x x_4:Nat)=>O 0,iB:=fun (x x_4:Nat)=>O 0,uP:=fun (x:Nat)=>O 0,uL:=fun (x:Nat)=>O 0,uD:=fun (x:Nat)=>O 0 }) (U (lB y2=lB { y2 with lenP:=fun (x:Nat)=>0,FC:=fun (x:Nat)=>0,iO:=fun (x x_4:Nat)=>O 0,iA:=fun (x x_4:Nat)=>O 0,iB:=fun (x x_4:Nat)=>O 0,uP:=fun (x:Nat)=>O 0,uL:=fun (x:Nat)=>O 0,uD:=fun (x:Nat)=>O 0 }) (U (lQ y2=lQ { y2 with lenP:=fun (x:Nat)=>0,FC:=fun (x:Nat)=>0,iO:=fun (x x_4:Nat)=>O 0,iA:=fun (x x_4:Nat)=>O 0,iB:=fun (x x_4:Nat)=>O 0,uP:=fun (x:Nat)=>O 0,uL:=fun (x:Nat)=>O 0,uD:=fun (x:Nat)=>O 0 }) (U (lT y2=lT { y2 with lenP:=fun (x:Nat)=>0,FC:=fun (x:Nat)=>0,iO:=fun (x x_4:Nat)=>O 0,iA:=fun (x x_4:Nat)=>O 0,iB:=fun (x x_4:Nat)=>O 0,uP:=fun (x:Nat)=>O 0,uL:=fun (x:Nat)=>O 0,uD:=fun (x:Nat)=>O 0 }) (nN [qE y4.x.n,qE y4.a.r,(1,.eq 0 0),qE y4.a.e,qE y4.n,qE y4.a.c,qE y4.m.lk,qE y4.m.lc,qE y4.m.lo,qE y4.m.ln,qE y4.m.ct,qE y4.a.c,qL y4.n,qF y4.n y4.m.g,qE y4.now,qE y4.dr,(1,.le 1 1)] (znlw13 y4.x y4.a (nN (znlw5 y4.x (znlw6 y4.x (znlw8 y4.x (znlw11 y4.x y4.a [])))) (znlw7 y4.x y4.a (nN (qE y4.a.e::(1,.le 0 0)::znlw3 (znlw3 [qF 0 (fun (e:Nat)=>O 0),qE y2.W,qE y2.L,qE y2.C,qE y2.T,qE y2.D,qE y2.H,qE y2.B,qE y2.A,qE y2.P,qE y2.nP,qE y2.rc,qE y2.nU,qE y2.cu,qE y4.n,qE y4.b.c,qE y4.m.lk,qE y4.m.lc,qE y4.m.lo,qE y4.m.ln,qE y4.m.ct,qE y4.now,qE y4.dr,qE y4.x.n,qE y4.b.r,(1,.eq 0 0),qE y4.b.e,qE y4.b.c,qL y4.n,qF y4.n y4.m.g,(1,.le 1 1)])) (znlw13 y4.x y4.b (nN (znlw5 y4.x (znlw6 y4.x (znlw8 y4.x (znlw11 y4.x y4.b [])))) (znlw7 y4.x y4.b (nN (qE y4.b.e::(1,.le 0 0)::znlw3 (znlw3 [qF 0 (fun (e:Nat)=>O 0),(1,.le 0 1)])) (U (0<=y2.nP/\0<=y2.rc) (nN [(1,.le 0 1)] (U (0<=y2.nU/\0<=y2.cu) (nN (qE y1.fst::qE y1.snd.fst::qE y1.snd.snd::(2,.eq 1 1)::(1,.le 1 1)::qE y1.fst::qE y1.snd.fst::qE y1.snd.snd::(1,.le 1 1)::znlw0 l3 g3 []) (U (okMq { y2 with lenP:=fun (x:Nat)=>0,FC:=fun (x:Nat)=>0,iO:=fun (x x_4:Nat)=>O 0,iA:=fun (x x_4:Nat)=>O 0,iB:=fun (x x_4:Nat)=>O 0,uP:=fun (x:Nat)=>O 0,uL:=fun (x:Nat)=>O 0,uD:=fun (x:Nat)=>O 0 } { y4 with d:={ y2 with lenP:=fun (x:Nat)=>0,FC:=fun (x:Nat)=>0,iO:=fun (x x_4:Nat)=>O 0,iA:=fun (x x_4:Nat)=>O 0,iB:=fun (x x_4:Nat)=>O 0,uP:=fun (x:Nat)=>O 0,uL:=fun (x:Nat)=>O 0,uD:=fun (x:Nat)=>O 0 }}) V.ok)))))))))))))))))))))))))))))))))))))))))))))))))))):=by kernel_rfl
theorem vhLWk {g0 g1 g2 g3:Nat->Int} {l0 c0 l1 c1 l2 c2 l3 c3:Nat} {d t q:Int} {near:Bool} (hu:U8 l0 g0):zad (verLWk g0 g1 g2 g3 l0 c0 l1 c1 l2 c2 l3 c3 d t q near):=by
 refine zad.pr (verLWk_eq ..) ?_
 (with_reducible repeat' first | exact V.okI | refine V.brT ?_ | refine V.brF ?_ | refine V.brI ?_ ?_ | refine V.anyI ?_ | refine nN_h rfl ?_ | refine V.needI ?_ ?_ | intro _)
 all_goals first
  | rfl
  | exact True.intro
  | assumption
  | exact Nat.le_refl _
  | exact ex_dec hu
  | exact ex_sc
  | exact ⟨Nat.zero_le _,Nat.zero_le _⟩
  | exact (dec_rc ‹_›).1
  | exact (dec_rc ‹_›).2
  | exact dec_gd ‹_› ‹_›
  | exact ⟨Nat.le_refl _,And.left (by assumption:okSc _ _)⟩
  | exact dec_pre hu ‹_› ‹_› (by decide)
  | exact ev_ex (dec_Y hu ‹_›)
  | exact (ev_d ‹_›).1
  | exact (ev_d ‹_›).2.1
  | exact (ev_d ‹_›).2.2.1
  | exact (ev_d ‹_›).2.2.2.1
  | exact (ev_d ‹_›).2.2.2.2.1
  | exact (ev_d ‹_›).2.2.2.2.2.1
  | exact (ev_d ‹_›).2.2.2.2.2.2.1
  | exact (ev_d ‹_›).2.2.2.2.2.2.2.1
  | exact (ev_d ‹_›).2.2.2.2.2.2.2.2
  | exact ev_ra ‹_›
  | exact ev_rb ‹_›
  | exact ev_ka ‹_› ‹_›
  | exact ev_kb ‹_› ‹_›
  | exact s_len ‹_› (by decide)
  | (rename_i D hD S hS V hV; exact dec_mq hu hD hV ⟨⟨rfl,rfl,rfl⟩,rfl,rfl,rfl⟩)
  | trace_state
theorem conLWk_ok:zak P conLWk:=.add aw19_ok (.add conDec_ok (.add cSc_ok (.add cEvS_ok (.add cWk_ok zak.nil))))
theorem walkLWk (a0:Option Addr) (l0 c0:Nat) (g0:Nat->Int) (a1:Option Addr) (l1 c1:Nat) (g1:Nat->Int) (a2:Option Addr) (l2 c2:Nat) (g2:Nat->Int) (a3:Option Addr) (l3 c3:Nat) (g3:Nat->Int) (d:Int) (t:Int) (q:Int) (near:Bool) (W:World) (h0:zgg .u8 W a0 l0 c0 g0) (h1:zgg .u8 W a1 l1 c1 g1) (h2:zgg .i64 W a2 l2 c2 g2) (h3:zgg .i64 W a3 l3 c3 g3) (h4:(Lit.int .i64 d).wf=true) (h5:(Lit.int .i64 t).wf=true) (h6:(Lit.int .i64 q).wf=true):
  Calls P fLWk #[.slice a0 l0 c0,.slice a1 l1 c1,.slice a2 l2 c2,.slice a3 l3 c3,.int .i64 d,.int .i64 t,.int .i64 q,.bool near] W fun e w'=>e=.returned (.bool true)/\Below W.heap.size W w':=by
 refine calls_yesV (vs:=[.slice a0 l0 c0,.slice a1 l1 c1,.slice a2 l2 c2,.slice a3 l3 c3,.int .i64 d,.int .i64 t,.int .i64 q,.bool near]) conLWk_ok (ρ:=fun k i=>if i=0 then (if k=0 then addr0 a0 else if k=1 then addr0 a1 else if k=2 then addr0 a2 else if k=3 then addr0 a3 else none) else none) (vhLWk (g0:=g0) (g1:=g1) (g2:=g2) (g3:=g3) (l0:=l0) (c0:=c0) (l1:=l1) (c1:=c1) (l2:=l2) (c2:=c2) (l3:=l3) (c3:=c3) (d:=d) (t:=t) (q:=q) (near:=near) (fun e he=>u8i (h0.fits e he))) (views_inv fun k b' hk=>?_) ⟨h0.val (by simp) ⟨zg rfl,trivial⟩,h1.val (by simp) ⟨zg rfl,trivial⟩,h2.val (by simp) ⟨zg rfl,trivial⟩,h3.val (by simp) ⟨zg rfl,trivial⟩,fun _ _=>rfl,fun _ _=>rfl,fun _ _=>rfl,fun _ _=>rfl,trivial⟩
 rw [zag] at hk
 split at hk
 ·rename_i e; subst e
  cases hk
  exact ⟨rfl,by decide,h0.sat (by simp)⟩
 rw [zag] at hk
 split at hk
 ·rename_i e; subst e
  cases hk
  exact ⟨rfl,by decide,h1.sat (by simp)⟩
 rw [zag] at hk
 split at hk
 ·rename_i e; subst e
  cases hk
  exact ⟨rfl,by decide,h2.sat (by simp)⟩
 rw [zag] at hk
 split at hk
 ·rename_i e; subst e
  cases hk
  exact ⟨rfl,by decide,h3.sat (by simp)⟩
 ·cases hk
end Go.Proofs.YthnipoikicnlaaaGreat.En
