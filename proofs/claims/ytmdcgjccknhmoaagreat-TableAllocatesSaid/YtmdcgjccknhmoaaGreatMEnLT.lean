/- TableAllocates: the law: what is asked. -/
import Derived.Test.YtmdcgjccknhmoaaGreatMEnAo
import Derived.Test.YtmdcgjccknhmoaaGreatMMdAw18
import Derived.Test.YtmdcgjccknhmoaaGreatMEnG
import Derived.Test.YtmdcgjccknhmoaaGreatMEg
import Derived.Test.YtmdcgjccknhmoaaGreatMW
import Derived.Test.YtmdcgjccknhmoaaGreatMV
set_option maxHeartbeats 64000000
set_option linter.unusedVariables false
set_option linter.unusedSimpArgs false
set_option maxRecDepth 100000
open Go.IntKind (i64 u64)
open Int renaming ofNat -> O
open Go.Proofs.YtmdcgjccknhmoaaGreat.Sx.V renaming need -> U
namespace Go.Proofs.YtmdcgjccknhmoaaGreat.En
open Go Go.RowKit Sx Cn Dc Ck Vc Md
noncomputable section
def fLTa:FuncId:=3
def conLTa:Con:=Con.add 8 conYes (Con.add 24 conDec (Con.add fSc cSc (Con.add fEv cEvS (Con.add fMt cAo (Con.add fRA cRA (conU con0))))))
def verLTa (g0 g1 g2:Nat->Int) (l0 c0 l1 c1 l2 c2:Nat) (d:Int) (near:Bool):V:=verF P conLTa 6 8 fLTa [] .nil
 [.c (slK 0 1 l0 c0),.c (slK 1 1 l1 c1),.c (slK 2 1 l2 c2),.c (.iv .u64 d),.c (.bv near)] ⟨[(0,ints .u8 l0 g0),(1,ints .u8 l1 g1),(2,ints .i64 l2 g2)],3,fun _=>True⟩ yesV
end
end Go.Proofs.YtmdcgjccknhmoaaGreat.En
/- TableAllocates: the conditions, printed by program. -/
namespace Go.Proofs.YtmdcgjccknhmoaaGreat.En
open Go Go.RowKit Sx Cn Dc Ck Vc Md
abbrev znlt0 (a0:Rk) (a1:Rm) (k:V):V:=U (∀ (i:Nat),i < a0.n->a0.kl i<=upto a0.n a0.kl i/\a0.kl i<=a1.k i) (nN [(1,.pf (∀ (i e:Nat),i < a0.n/\e < a0.kl i->a0.kd i e=a0.kd i e) (by intros; rfl))] k)
abbrev znlt1 (a0:Rk) (l:LP):LP:=(1,.pf (∀ (i e:Nat),i=0/\e < a0.n->a0.pa e=a0.pa e) (by intros; rfl))::(1,.pf (∀ (i e:Nat),i=0/\e < a0.n->a0.pc e=a0.pc e) (by intros; rfl))::l
abbrev znlt8 (a0:Cf) (k:V):V:=nN [(1,.le 0 1)] (U (0<=a0.nU/\0<=a0.cu) k)
abbrev znlt2 (a0:Rm) (k:V):V:=U (0<=0/\0<=a0.e) (nN [(5,.pf (∀ (i e:Nat),i=0/\e < 0->O 0=O 0) (by intros; rfl))] k)
abbrev znlt3 (a0:Rk) (a1:Rm) (k:V):V:=U (a0.n<=a0.n/\a0.n<=a1.r) (nN [(1,.pf (∀ (i e:Nat),i=0/\e < a0.n->a0.p e=a0.p e) (by intros; rfl))] k)
abbrev znlt4 (a0:Rk) (a1:Rm) (l:LP):LP:=(1,.pf (∀ (i e:Nat),i=0/\e < a0.n->a0.kl e=a0.kl e) (by intros; rfl))::(1,.pf (∀ (i e:Nat),i=0/\e < a0.n->a1.k e=a1.k e) (by intros; rfl))::(1,.pf (∀ (i e:Nat),i=0/\e < a0.n->a0.st e=a0.st e) (by intros; rfl))::l
abbrev znlt5 (a0:Nat) (a1:Nat->Int) (l:LP):LP:=(1,.pf (∀ (i:Nat),i < 1->a0<=a0) (by intros; exact Nat.le_refl _))::(1,.pf (∀ (i e:Nat),i < 1/\e < a0->a1 e=a1 e) (by intros; rfl))::l
abbrev znlt6 (a0:Rk) (l:LP):LP:=(1,.pf (∀ (i e:Nat),i=0/\e < a0.n->a0.lf e=a0.lf e) (by intros; rfl))::(1,.pf (∀ (i e:Nat),i=0/\e < a0.n->a0.wt e=a0.wt e) (by intros; rfl))::(1,.pf (∀ (i e:Nat),i=0/\e < a0.n->e=e) (by intros; rfl))::l
abbrev znlt7 (a0:Cf) (k:V):V:=nN [(1,.le 0 1)] (U (0<=a0.nP/\0<=a0.rc) k)
theorem verLTa_eq (g0 g1 g2:Nat->Int) (l0 c0 l1 c1 l2 c2:Nat) (d:Int) (near:Bool):V.pr .z (verLTa g0 g1 g2 l0 c0 l1 c1 l2 c2 d near)=
 nN [(2,.lt 0 1)] (V.br (decide ((↑l2:Int) > O 400)) (V.ok) (V.br (!decide ((↑l0:Int)<=O 400)) (V.ok) (V.br (decide ((↑l1:Int) > O 400)) (V.ok) (nN (qE l0::qE c0::(1,.le 1 1)::znlt5 l0 g0 []) (U (U8 l0 fun (e:Nat)=>g0 e) (nA (zch g0 l0) fun y0=>nN (qE l1::qE c1::(1,.eqI 200 200)::(1,.le 1 1)::znlt5 l1 g1 []) (U (l1<=1000000/\O 0<=O 200) (nA (okSc (O 200)) fun y1=>nN [qE y0.W,qE y0.L,qE y0.C,qE y0.T,qE y0.D,qE y0.H,qE y0.B,qE y0.A,qE y0.P,qE y0.nP,qE y0.rc,qE y0.nU,qE y0.cu,qE y1.n,qE y1.cap,qE l2,qE c2,(1,.le 1 1)] (U (y0.nP<=y0.nP/\y0.nP<=y0.rc) (nN [(1,.pf (∀ (i e:Nat),i=0/\e < y0.nP->e=e) (by intros; rfl)),(1,.pf (∀ (i e:Nat),i=0/\e < y0.nP->y0.lenP e=y0.lenP e) (by intros; rfl)),(1,.pf (∀ (i e:Nat),i=0/\e < y0.nP->y0.FC e=y0.FC e) (by intros; rfl)),(1,.le 1 1)] (U (y0.nU<=y0.nU/\y0.nU<=y0.cu) (nN [(1,.pf (∀ (i e:Nat),i=0/\e < y0.nU->y0.uP e=y0.uP e) (by intros; rfl)),(1,.pf (∀ (i e:Nat),i=0/\e < y0.nU->y0.uL e=y0.uL e) (by intros; rfl)),(1,.pf (∀ (i e:Nat),i=0/\e < y0.nU->y0.uD e=y0.uD e) (by intros; rfl))] (U (∀ (i:Nat),i < y0.nP->y0.lenP i<=gd y0.nP y0.lenP i/\y0.lenP i<=gd y0.nP y0.FC i) (nN [(1,.pf (∀ (i e:Nat),i < y0.nP/\e < y0.lenP i->y0.iO i e=y0.iO i e) (by intros; rfl)),(1,.pf (∀ (i e:Nat),i < y0.nP/\e < y0.lenP i->y0.iA i e=y0.iA i e) (by intros; rfl)),(1,.pf (∀ (i e:Nat),i < y0.nP/\e < y0.lenP i->y0.iB i e=y0.iB i e) (by intros; rfl)),(1,.le 1 1)] (U (y1.n<=y1.n/\y1.n<=y1.cap) (nN ((1,.pf (∀ (i e:Nat),i=0/\e < y1.n->y1.ka e=y1.ka e) (by intros; rfl))::(1,.pf (∀ (i e:Nat),i=0/\e < y1.n->y1.va e=y1.va e) (by intros; rfl))::(1,.le 1 1)::znlt5 l2 g2 []) (U (preEv y0 y1.n) (nA (okEv y0) fun y2=>U True (V.br near (nN [(1,.eqI 0 0),qE d,qE y2.n,qE y2.a.c,qE y2.m.lk,qE y2.m.lc,qE y2.m.lo,qE y2.m.ln,qE y2.m.ct,qE y2.a.c,qL y2.n,qF y2.n y2.m.g,qX (y2.m.acc y2.n (O 2) (O 0) d)] (V.any Mm (fun (m':Mm)=>m'=y2.m.acc y2.n (O 2) (O 0) d) fun y3=>nN [(1,.eqI 0 0),qE d,(1,.eqI 0 0),qE y0.W,qE y0.L,qE y0.C,qE y0.T,qE y0.D,qE y0.H,qE y0.B,qE y0.A,qE y0.P,qE y0.nP,qE y0.rc,qE y0.nU,qE y0.cu,qE y2.n,qE y2.b.c,qE y2.m.lk,qE y2.m.lc,qE y2.m.lo,qE y2.m.ln,qE y2.m.ct,qE y2.now,qE y2.dr,qE y2.x.n,qE y2.b.r,(1,.eq 0 0),qE y2.b.e,qE y2.b.c,qL y2.n,qF y2.n y2.m.g] (znlt7 y0 (znlt8 y0 (nN [(1,.le 0 1)] (U (0<=y2.x.n/\0<=y2.b.r) (nN [(1,.le 0 1)] (U (0<=0/\0<=y2.b.e) (nN [qX (y2.m.acc y2.n (O 2) (O 0) d)] (V.any Mm (fun (m':Mm)=>m'=y2.m.acc y2.n (O 2) (O 0) d) fun y4=>U (y2.d.W=y0.W) (U (y2.d.L=y0.L) (U (y2.d.C=y0.C) (U (y2.d.T=y0.T) (U (y2.d.D=y0.D) (U (y2.d.H=y0.H) (U (y2.d.B=y0.B) (U (y2.d.A=y0.A) (U (y2.d.P=y0.P) (nN [qE y0.W,qE y0.L,qE y0.C,qE y0.T,qE y0.D,qE y0.H] (U (lS y0=lS { y0 with lenP:=fun (x:Nat)=>0,FC:=fun (x:Nat)=>0,iO:=fun (x x_5:Nat)=>O 0,iA:=fun (x x_5:Nat)=>O 0,iB:=fun (x x_5:Nat)=>O 0,uP:=fun (x:Nat)=>O 0,uL:=fun (x:Nat)=>O 0,uD:=fun (x:Nat)=>O 0 }) (U (lE y0=lE { y0 with lenP:=fun (x:Nat)=>0,FC:=fun (x:Nat)=>0,iO:=fun (x x_5:Nat)=>O 0,iA:=fun (x x_5:Nat)=>O 0,iB:=fun (x x_5:Nat)=>O 0,uP:=fun (x:Nat)=>O 0,uL:=fun (x:Nat)=>O 0,uD:=fun (x:Nat)=>O 0 }) (U (lB y0=lB { y0 with lenP:=fun (x:Nat)=>0,FC:=fun (x:Nat)=>0,iO:=fun (x x_5:Nat)=>O 0,iA:=fun (x x_5:Nat)=>O 0,iB:=fun (x x_5:Nat)=>O 0,uP:=fun (x:Nat)=>O 0,uL:=fun (x:Nat)=>O 0,uD:=fun (x:Nat)=>O 0 }) (U (lQ y0=lQ { y0 with lenP:=fun (x:Nat)=>0,FC:=fun (x:Nat)=>0,iO:=fun (x x_5:Nat)=>O 0,iA:=fun (x x_5:Nat)=>O 0,iB:=fun (x x_5:Nat)=>O 0,uP:=fun (x:Nat)=>O 0,uL:=fun (x:Nat)=>O 0,uD:=fun (x:Nat)=>O 0 }) (U (lT y0=lT { y0 with lenP:=fun (x:Nat)=>0,FC:=fun (x:Nat)=>0,iO:=fun (x x_5:Nat)=>O 0,iA:=fun (x x_5:Nat)=>O 0,iB:=fun (x x_5:Nat)=>O 0,uP:=fun (x:Nat)=>O 0,uL:=fun (x:Nat)=>O 0,uD:=fun (x:Nat)=>O 0 }) (nN [qE y2.x.n,qE y2.a.r,(1,.eq 0 0),qE y2.a.e,qE y2.n,qE y2.a.c,qE y3.lk,qE y3.lc,qE y3.lo,qE y3.ln,qE y3.ct,qE y2.a.c,qL y2.n,qF y2.n y3.g,qE y2.now,qE y2.dr,(1,.le 1 1)] (znlt3 y2.x y2.a (nN (znlt1 y2.x (znlt6 y2.x (znlt4 y2.x y2.a []))) (znlt0 y2.x y2.a (nN [(1,.le 1 1)] (znlt2 y2.a (nN [qE y0.W,qE y0.L,qE y0.C,qE y0.T,qE y0.D,qE y0.H,qE y0.B,qE y0.A,qE y0.P,qE y0.nP,qE y0.rc,qE y0.nU,qE y0.cu,qE y2.n,qE y2.b.c] (U (y4.lk=y3.lk) (U (y4.lc=y3.lc) (U (y4.lo=y3.lo) (U (y4.ln=y3.ln) (U (y4.ct=y3.ct) (nN [qE y2.now,qE y2.dr,qE y2.x.n,qE y2.b.r,(1,.eq 0 0),qE y2.b.e,qE y2.b.c,qL y2.n] (U (∀ (e:Nat),e < y2.n->y4.g e=y3.g e) (nN [(1,.le 1 1)] (znlt3 y2.x y2.b (nN (znlt1 y2.x (znlt6 y2.x (znlt4 y2.x y2.b []))) (znlt0 y2.x y2.b (nN [(1,.le 1 1)] (znlt2 y2.b (znlt7 y0 (znlt8 y0 (nN [(2,.eq 1 1),(1,.le 1 1)] (U (okMq { y0 with lenP:=fun (x:Nat)=>0,FC:=fun (x:Nat)=>0,iO:=fun (x x_5:Nat)=>O 0,iA:=fun (x x_5:Nat)=>O 0,iB:=fun (x x_5:Nat)=>O 0,uP:=fun (x:Nat)=>O 0,uL:=fun (x:Nat)=>O 0,uD:=fun (x:Nat)=>O 0 } { y2 with d:={ y0 with lenP:=fun (x:Nat)=>0,FC:=fun (x:Nat)=>0,iO:=fun (x x_5:Nat)=>O 0,iA:=fun (x x_5:Nat)=>O 0,iB:=fun (x x_5:Nat)=>O 0,uP:=fun (x:Nat)=>O 0,uL:=fun (x:Nat)=>O 0,uD:=fun (x:Nat)=>O 0 },m:=y3 }) V.ok)))))))))))))))))))))))))))))))))))))))))))))))) (U (y2.d.W=y0.W) (U (y2.d.L=y0.L) (U (y2.d.C=y0.C) (U (y2.d.T=y0.T) (U (y2.d.D=y0.D) (U (y2.d.H=y0.H) (U (y2.d.B=y0.B) (U (y2.d.A=y0.A) (U (y2.d.P=y0.P) (nN [qE y0.W,qE y0.L,qE y0.C,qE y0.T,qE y0.D,qE y0.H] (U (lS y0=lS { y0 with lenP:=fun (x:Nat)=>0,FC:=fun (x:Nat)=>0,iO:=fun (x x_3:Nat)=>O 0,iA:=fun (x x_3:Nat)=>O 0,iB:=fun (x x_3:Nat)=>O 0,uP:=fun (x:Nat)=>O 0,uL:=fun (x:Nat)=>O 0,uD:=fun (x:Nat)=>O 0 }) (U (lE y0=lE { y0 with lenP:=fun (x:Nat)=>0,FC:=fun (x:Nat)=>0,iO:=fun (x x_3:Nat)=>O 0,iA:=fun (x x_3:Nat)=>O 0,iB:=fun (x x_3:Nat)=>O 0,uP:=fun (x:Nat)=>O 0,uL:=fun (x:Nat)=>O 0,uD:=fun (x:Nat)=>O 0 }) (U (lB y0=lB { y0 with lenP:=fun (x:Nat)=>0,FC:=fun (x:Nat)=>0,iO:=fun (x x_3:Nat)=>O 0,iA:=fun (x x_3:Nat)=>O 0,iB:=fun (x x_3:Nat)=>O 0,uP:=fun (x:Nat)=>O 0,uL:=fun (x:Nat)=>O 0,uD:=fun (x:Nat)=>O 0 }) (U (lQ y0=lQ { y0 with lenP:=fun (x:Nat)=>0,FC:=fun (x:Nat)=>0,iO:=fun (x x_3:Nat)=>O 0,iA:=fun (x x_3:Nat)=>O 0,iB:=fun (x x_3:Nat)=>O 0,uP:=fun (x:Nat)=>O 0,uL:=fun (x:Nat)=>O 0,uD:=fun (x:Nat)=>O 0 }) (U (lT y0=lT { y0 with lenP:=fun (x:Nat)=>0,FC:=fun (x:Nat)=>0,iO:=fun (x x_3:Nat)=>O 0,iA:=fun (x x_3:Nat)=>O 0,iB:=fun (x x_3:Nat)=>O 0,uP:=fun (x:Nat)=>O 0,uL:=fun (x:Nat)=>O 0,uD:=fun (x:Nat)=>O 0 }) (nN [qE y2.x.n,qE y2.a.r,(1,.eq 0 0),qE y2.a.e,qE y2.n,qE y2.a.c,qE y2.m.lk,qE y2.m.lc,qE y2.m.lo,qE y2.m.ln,qE y2.m.ct,qE y2.a.c,qL y2.n,qF y2.n y2.m.g,qE y2.now,qE y2.dr,(1,.le 1 1)] (znlt3 y2.x y2.a (nN (znlt1 y2.x (znlt6 y2.x (znlt4 y2.x y2.a []))) (znlt0 y2.x y2.a (nN [(1,.le 1 1)] (znlt2 y2.a (nN [qE y0.W,qE y0.L,qE y0.C,qE y0.T,qE y0.D,qE y0.H,qE y0.B,qE y0.A,qE y0.P,qE y0.nP,qE y0.rc,qE y0.nU,qE y0.cu,qE y2.n,qE y2.b.c,qE y2.m.lk,qE y2.m.lc,qE y2.m.lo,qE y2.m.ln,qE y2.m.ct,qE y2.now,qE y2.dr,qE y2.x.n,qE y2.b.r,(1,.eq 0 0),qE y2.b.e,qE y2.b.c,qL y2.n,qF y2.n y2.m.g,(1,.le 1 1)] (znlt3 y2.x y2.b (nN (znlt1 y2.x (znlt6 y2.x (znlt4 y2.x y2.b []))) (znlt0 y2.x y2.b (nN [(1,.le 1 1)] (znlt2 y2.b (znlt7 y0 (znlt8 y0 (nN [(2,.eq 1 1),(1,.le 1 1)] (U (okMq { y0 with lenP:=fun (x:Nat)=>0,FC:=fun (x:Nat)=>0,iO:=fun (x x_3:Nat)=>O 0,iA:=fun (x x_3:Nat)=>O 0,iB:=fun (x x_3:Nat)=>O 0,uP:=fun (x:Nat)=>O 0,uL:=fun (x:Nat)=>O 0,uD:=fun (x:Nat)=>O 0 } { y2 with d:={ y0 with lenP:=fun (x:Nat)=>0,FC:=fun (x:Nat)=>0,iO:=fun (x x_3:Nat)=>O 0,iA:=fun (x x_3:Nat)=>O 0,iB:=fun (x x_3:Nat)=>O 0,uP:=fun (x:Nat)=>O 0,uL:=fun (x:Nat)=>O 0,uD:=fun (x:Nat)=>O 0 }}) V.ok)))))))))))))))))))))))))))))))))))))))))))))))))):=by kernel_rfl
end Go.Proofs.YtmdcgjccknhmoaaGreat.En
/- TableAllocates: the conditions hold; the walk. -/
namespace Go.Proofs.YtmdcgjccknhmoaaGreat.En
open Go Go.RowKit Sx Cn Dc Ck Vc Md
theorem ta_mq {g:Nat->Int} {len:Nat} {d:Cf} {v:Ev} {now dr n:Int} {m:Mm} {c e:Cf} (hu:U8 len g) (h:zch g len d) (hv:okEv d v) (hm:m=v.m.acc v.n (O 2) (O 0) n) (hn:(Lit.int .u64 n).wf=true) (hc:(c.W=d.W/\c.L=d.L/\c.C=d.C)/\c.T=d.T/\c.D=d.D/\c.H=d.H):okMq c ⟨e,v.n,m,v.x,now,dr,v.a,v.b⟩:=by
 obtain ⟨h1,h2,h3,h4,h5,h6,h7,h8⟩:=dec_mq (e:=e) (now:=now) (dr:=dr) hu h hv hc
 refine ⟨h1,h2,h3,h4,h5,h6,h7,?_⟩
 have h9:=hv.2.2.2.2.2.2.2.2.2.2
 show okMw 2000000 m
 rw [hm]
 exact (zgm h9 (by omega) (wf_u64 hn)).le (by omega)
theorem vhLTa {g0 g1 g2:Nat->Int} {l0 c0 l1 c1 l2 c2:Nat} {d:Int} {near:Bool} (hn:(Lit.int .u64 d).wf=true) (hu:U8 l0 g0):zae (verLTa g0 g1 g2 l0 c0 l1 c1 l2 c2 d near):=by
 refine zae.pr (verLTa_eq ..) ?_
 (with_reducible repeat' first | exact V.okI | refine V.brT ?_ | refine V.brF ?_ | refine V.brI ?_ ?_ | refine V.anyI ?_ | refine nN_h rfl ?_ | refine V.needI ?_ ?_ | intro _)
 all_goals first
  | rfl
  | exact True.intro
  | assumption
  | exact Nat.le_refl _
  | exact ex_dec hu
  | exact ex_sc
  | exact ⟨Nat.zero_le _,Nat.zero_le _⟩
  | exact (dec_rc ‹_›).1
  | exact (dec_rc ‹_›).2
  | exact dec_gd ‹_› ‹_›
  | exact ⟨Nat.le_refl _,And.left (by assumption:okSc _ _)⟩
  | exact dec_pre hu ‹_› ‹_› (by decide)
  | exact ev_ex (dec_Y hu ‹_›)
  | exact (ev_d ‹_›).1
  | exact (ev_d ‹_›).2.1
  | exact (ev_d ‹_›).2.2.1
  | exact (ev_d ‹_›).2.2.2.1
  | exact (ev_d ‹_›).2.2.2.2.1
  | exact (ev_d ‹_›).2.2.2.2.2.1
  | exact (ev_d ‹_›).2.2.2.2.2.2.1
  | exact (ev_d ‹_›).2.2.2.2.2.2.2.1
  | exact (ev_d ‹_›).2.2.2.2.2.2.2.2
  | exact ev_ra ‹_›
  | exact ev_rb ‹_›
  | exact ev_ka ‹_› ‹_›
  | exact ev_kb ‹_› ‹_›
  | exact s_len ‹_› (by decide)
  | exact Nat.zero_le _
  | (subst_vars; rfl)
  | (rename_i D hD S hS V hV _; exact dec_mq hu hD hV ⟨⟨rfl,rfl,rfl⟩,rfl,rfl,rfl⟩)
  | (rename_i D hD S hS V hV _ m hm _ _; exact ta_mq hu hD hV hm hn ⟨⟨rfl,rfl,rfl⟩,rfl,rfl,rfl⟩)
  | (rename_i D hD S hS V hV; exact dec_mq hu hD hV ⟨⟨rfl,rfl,rfl⟩,rfl,rfl,rfl⟩)
  | trace_state
theorem conLTa_ok:zai P conLTa:=.add aw18_ok (.add conDec_ok (.add cSc_ok (.add cEvS_ok (.add cAo_ok (.add cRA_ok (conU_ok zai.nil))))))
theorem walkLTa (a0:Option Addr) (l0 c0:Nat) (g0:Nat->Int) (a1:Option Addr) (l1 c1:Nat) (g1:Nat->Int) (a2:Option Addr) (l2 c2:Nat) (g2:Nat->Int) (d:Int) (near:Bool) (W:World) (h0:zgb .u8 W a0 l0 c0 g0) (h1:zgb .u8 W a1 l1 c1 g1) (h2:zgb .i64 W a2 l2 c2 g2) (h3:(Lit.int .u64 d).wf=true):
  Calls P fLTa #[.slice a0 l0 c0,.slice a1 l1 c1,.slice a2 l2 c2,.int .u64 d,.bool near] W fun e w'=>e=.returned (.bool true)/\Below W.heap.size W w':=by
 refine calls_yesV (vs:=[.slice a0 l0 c0,.slice a1 l1 c1,.slice a2 l2 c2,.int .u64 d,.bool near]) conLTa_ok (ρ:=fun k i=>if i=0 then (if k=0 then addr0 a0 else if k=1 then addr0 a1 else if k=2 then addr0 a2 else none) else none) (vhLTa (g0:=g0) (g1:=g1) (g2:=g2) (l0:=l0) (c0:=c0) (l1:=l1) (c1:=c1) (l2:=l2) (c2:=c2) (d:=d) (near:=near) h3 (fun e he=>u8i (h0.fits e he))) (views_inv fun k b' hk=>?_) ⟨h0.val (by simp) ⟨Nat.le_of_ble_eq_true rfl,trivial⟩,h1.val (by simp) ⟨Nat.le_of_ble_eq_true rfl,trivial⟩,h2.val (by simp) ⟨Nat.le_of_ble_eq_true rfl,trivial⟩,fun _ _=>rfl,fun _ _=>rfl,trivial⟩
 rw [zag] at hk
 split at hk
 ·rename_i e; subst e
  cases hk
  exact ⟨rfl,by decide,h0.sat (by simp)⟩
 rw [zag] at hk
 split at hk
 ·rename_i e; subst e
  cases hk
  exact ⟨rfl,by decide,h1.sat (by simp)⟩
 rw [zag] at hk
 split at hk
 ·rename_i e; subst e
  cases hk
  exact ⟨rfl,by decide,h2.sat (by simp)⟩
 ·cases hk
end Go.Proofs.YtmdcgjccknhmoaaGreat.En
