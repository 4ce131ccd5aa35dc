/- TableClaims: the law: what is asked. -/
import Derived.Test.YtjiljajegheilaaGreatMEnCx
import Derived.Test.YtjiljajegheilaaGreatMMdAw18
import Derived.Test.YtjiljajegheilaaGreatMEnG
import Derived.Test.YtjiljajegheilaaGreatMEg
import Derived.Test.YtjiljajegheilaaGreatMW
import Derived.Test.YtjiljajegheilaaGreatMV
set_option maxHeartbeats 64000000
set_option linter.unusedVariables false
set_option linter.unusedSimpArgs false
set_option maxRecDepth 100000
open Go.IntKind (i64 u64)
open Int renaming ofNat -> O
open Go.Proofs.YtjiljajegheilaaGreat.Sx.V renaming need -> U
namespace Go.Proofs.YtjiljajegheilaaGreat.En
open Go Go.RowKit Sx Cn Dc Ck Vc Md
noncomputable section
def fLTc:FuncId:=3
def conLTc:Con:=Con.add 9 conYes (Con.add 13 conDec (Con.add fSc cSc (Con.add fEv cEvS (Con.add fMt cMc (Con.add fDr cDr con0)))))
def verLTc (g0 g1 g2:Nat->Int) (l0 c0 l1 c1 l2 c2:Nat) (d t:Int) (near:Bool):V:=verF P conLTc 6 8 fLTc [] (.cut 4006 Int (laN1 4) .nil .nil)
 [.c (slK 0 1 l0 c0),.c (slK 1 1 l1 c1),.c (slK 2 1 l2 c2),iv d,iv t,.c (.bv near)] ⟨[(0,ints .u8 l0 g0),(1,ints .u8 l1 g1),(2,ints .i64 l2 g2)],3,fun _=>True⟩ yesV
end
end Go.Proofs.YtjiljajegheilaaGreat.En
/- TableClaims: the conditions, printed by program. -/
namespace Go.Proofs.YtjiljajegheilaaGreat.En
open Go Go.RowKit Sx Cn Dc Ck Vc Md
abbrev znlt0 (a0:Nat) (a1:Nat->Int) (l:LP):LP:=(1,.pf (∀ (i:Nat),i < 1->a0<=a0) (by intros; exact Nat.le_refl _))::(1,.pf (∀ (i e:Nat),i < 1/\e < a0->a1 e=a1 e) (by intros; rfl))::l
abbrev znlt1 (l:LP):LP:=qF 0 (fun (e:Nat)=>O 0)::qF 0 (fun (e:Nat)=>O 0)::l
abbrev znlt2 (a0:Rk) (a1:Rm) (k:V):V:=U (∀ (i:Nat),i < a0.n->a0.kl i<=upto a0.n a0.kl i/\a0.kl i<=a1.k i) (nN [(1,.pf (∀ (i e:Nat),i < a0.n/\e < a0.kl i->a0.kd i e=a0.kd i e) (by intros; rfl))] k)
theorem verLTc_eq (g0 g1 g2:Nat->Int) (l0 c0 l1 c1 l2 c2:Nat) (d t:Int) (near:Bool):V.pr .z (verLTc g0 g1 g2 l0 c0 l1 c1 l2 c2 d t near)=
 nN [(2,.lt 0 1)] (V.br (decide ((↑l2:Int) > O 400)) (V.ok) (V.br (!decide ((↑l0:Int)<=O 400)) (V.ok) (V.br (decide ((↑l1:Int) > O 600)) (V.ok) (nN (qE l0::qE c0::(1,.le 1 1)::znlt0 l0 g0 []) (U (U8 l0 fun (e:Nat)=>g0 e) (nA (zco g0 l0) fun y0=>nN [qE t] (V.any Bool (fun (x:Bool)=>True) fun y1=>V.br y1 (V.br near (nN [(2,.lt2 0 1 0 1),(1,.neI 1 0),(2,.lt2 0 1 0 1),(1,.neI 1 0),(1,.neI 7 0),(1,.neI 1 0),qE (i64.wrap (t.tdiv (O 1))),qE y0.T] (U (y0.T<=O 9223372036854775807) (nN [qX (dr (i64.wrap (t.tdiv (O 1))) y0.T)] (V.any Int (fun (r:Int)=>r=dr (i64.wrap (t.tdiv (O 1))) y0.T) fun y2=>U True (nN [qE y2] V.ok))))) (U True (nN [qE t] V.ok))) (V.any Int (fun (x:Int)=>True) fun y2=>nN ((11,.lt2 0 1 0 1)::qE l1::qE c1::(1,.eqI 300 300)::(1,.le 1 1)::znlt0 l1 g1 []) (U (l1<=1000000/\O 0<=O 300) (nA (okSc (O 300)) fun y3=>nN [qE y0.W,qE y0.L,qE y0.C,qE y0.T,qE y0.D,qE y0.H,qE y0.B,qE y0.A,qE y0.P,qE y0.nP,qE y0.rc,qE y0.nU,qE y0.cu,qE y3.n,qE y3.cap,qE l2,qE c2,(1,.le 1 1),(1,.pf (∀ (i:Nat),i < 1->y0.nP<=y0.nP) (by intros; exact Nat.le_refl _)),(1,.pf (∀ (i e:Nat),i < 1/\e < y0.nP->e=e) (by intros; rfl)),(1,.pf (∀ (i e:Nat),i < 1/\e < y0.nP->y0.lenP e=y0.lenP e) (by intros; rfl)),(1,.pf (∀ (i e:Nat),i < 1/\e < y0.nP->y0.FC e=y0.FC e) (by intros; rfl)),(1,.le 1 1),(1,.pf (∀ (i:Nat),i < 1->y0.nU<=y0.nU) (by intros; exact Nat.le_refl _)),(1,.pf (∀ (i e:Nat),i < 1/\e < y0.nU->y0.uP e=y0.uP e) (by intros; rfl)),(1,.pf (∀ (i e:Nat),i < 1/\e < y0.nU->y0.uL e=y0.uL e) (by intros; rfl)),(1,.pf (∀ (i e:Nat),i < 1/\e < y0.nU->y0.uD e=y0.uD e) (by intros; rfl))] (U (∀ (i:Nat),i < y0.nP->y0.lenP i<=gd y0.nP y0.lenP i/\y0.lenP i<=gd y0.nP y0.FC i) (nN [(1,.pf (∀ (i e:Nat),i < y0.nP/\e < y0.lenP i->y0.iO i e=y0.iO i e) (by intros; rfl)),(1,.pf (∀ (i e:Nat),i < y0.nP/\e < y0.lenP i->y0.iA i e=y0.iA i e) (by intros; rfl)),(1,.pf (∀ (i e:Nat),i < y0.nP/\e < y0.lenP i->y0.iB i e=y0.iB i e) (by intros; rfl)),(1,.le 1 1)] (U (y3.n<=y3.n/\y3.n<=y3.cap) (nN ((1,.pf (∀ (i e:Nat),i=0/\e < y3.n->y3.ka e=y3.ka e) (by intros; rfl))::(1,.pf (∀ (i e:Nat),i=0/\e < y3.n->y3.va e=y3.va e) (by intros; rfl))::(1,.le 1 1)::znlt0 l2 g2 []) (U (preEv y0 y3.n) (nA (okEv y0) fun y4=>U True (U (y4.d.W=y0.W) (U (y4.d.L=y0.L) (U (y4.d.C=y0.C) (U (y4.d.T=y0.T) (U (y4.d.D=y0.D) (U (y4.d.H=y0.H) (U (y4.d.B=y0.B) (U (y4.d.A=y0.A) (U (y4.d.P=y0.P) (nN [qE y0.W,qE y0.L,qE y0.C,qE y0.T,qE y0.D,qE y0.H] (U (lS y0=lS { y0 with lenP:=fun (x:Nat)=>0,FC:=fun (x:Nat)=>0,iO:=fun (x x_5:Nat)=>O 0,iA:=fun (x x_5:Nat)=>O 0,iB:=fun (x x_5:Nat)=>O 0,uP:=fun (x:Nat)=>O 0,uL:=fun (x:Nat)=>O 0,uD:=fun (x:Nat)=>O 0 }) (U (lE y0=lE { y0 with lenP:=fun (x:Nat)=>0,FC:=fun (x:Nat)=>0,iO:=fun (x x_5:Nat)=>O 0,iA:=fun (x x_5:Nat)=>O 0,iB:=fun (x x_5:Nat)=>O 0,uP:=fun (x:Nat)=>O 0,uL:=fun (x:Nat)=>O 0,uD:=fun (x:Nat)=>O 0 }) (U (lB y0=lB { y0 with lenP:=fun (x:Nat)=>0,FC:=fun (x:Nat)=>0,iO:=fun (x x_5:Nat)=>O 0,iA:=fun (x x_5:Nat)=>O 0,iB:=fun (x x_5:Nat)=>O 0,uP:=fun (x:Nat)=>O 0,uL:=fun (x:Nat)=>O 0,uD:=fun (x:Nat)=>O 0 }) (U (lQ y0=lQ { y0 with lenP:=fun (x:Nat)=>0,FC:=fun (x:Nat)=>0,iO:=fun (x x_5:Nat)=>O 0,iA:=fun (x x_5:Nat)=>O 0,iB:=fun (x x_5:Nat)=>O 0,uP:=fun (x:Nat)=>O 0,uL:=fun (x:Nat)=>O 0,uD:=fun (x:Nat)=>O 0 }) (U (lT y0=lT { y0 with lenP:=fun (x:Nat)=>0,FC:=fun (x:Nat)=>0,iO:=fun (x x_5:Nat)=>O 0,iA:=fun (x x_5:Nat)=>O 0,iB:=fun (x x_5:Nat)=>O 0,uP:=fun (x:Nat)=>O 0,uL:=fun (x:Nat)=>O 0,uD:=fun (x:Nat)=>O 0 }) (nN [qE y4.x.n,qE y4.a.r,(1,.eq 0 0),qE y4.a.e,qE y4.n,qE y4.a.c,qE y4.m.lk,qE y4.m.lc,qE y4.m.lo,qE y4.m.ln,qE y4.m.ct,qE y4.a.c,qL y4.n,qF y4.n y4.m.g,qE y4.now,qE y4.dr,qE y4.a.r,qL y4.x.n,qF y4.x.n y4.x.p,qF y4.x.n y4.x.pa,qF y4.x.n y4.x.pc,qF y4.x.n y4.x.lf,qF y4.x.n y4.x.wt,qF y4.x.n (fun (e:Nat)=>e),qF y4.x.n y4.x.kl,qF y4.x.n y4.a.k,qF y4.x.n y4.x.st] (znlt2 y4.x y4.a (nN (qE y4.a.e::(1,.le 0 0)::znlt1 (znlt1 [qF 0 (fun (e:Nat)=>O 0),qE y0.W,qE y0.L,qE y0.C,qE y0.T,qE y0.D,qE y0.H,qE y0.B,qE y0.A,qE y0.P,qE y0.nP,qE y0.rc,qE y0.nU,qE y0.cu,qE y4.n,qE y4.b.c,qE y4.m.lk,qE y4.m.lc,qE y4.m.lo,qE y4.m.ln,qE y4.m.ct,qE y4.now,qE y4.dr,qE y4.x.n,qE y4.b.r,(1,.eq 0 0),qE y4.b.e,qE y4.b.c,qL y4.n,qF y4.n y4.m.g,qE y4.b.r,qL y4.x.n,qF y4.x.n y4.x.p,qF y4.x.n y4.x.pa,qF y4.x.n y4.x.pc,qF y4.x.n y4.x.lf,qF y4.x.n y4.x.wt,qF y4.x.n (fun (e:Nat)=>e),qF y4.x.n y4.x.kl,qF y4.x.n y4.b.k,qF y4.x.n y4.x.st])) (znlt2 y4.x y4.b (nN (qE y4.b.e::(1,.le 0 0)::znlt1 (znlt1 [qF 0 (fun (e:Nat)=>O 0),(1,.le 0 1)])) (U (∀ (i:Nat),i < 0->0<=y0.nP) (nN [(1,.le 0 1)] (U (∀ (i:Nat),i < 0->0<=y0.nU) (nN [qE d,qE y2,(2,.eq 1 1),(1,.le 1 1),qE d,qE y2] (U (okMq { y0 with lenP:=fun (x:Nat)=>0,FC:=fun (x:Nat)=>0,iO:=fun (x x_5:Nat)=>O 0,iA:=fun (x x_5:Nat)=>O 0,iB:=fun (x x_5:Nat)=>O 0,uP:=fun (x:Nat)=>O 0,uL:=fun (x:Nat)=>O 0,uD:=fun (x:Nat)=>O 0 } { y4 with d:={ y0 with lenP:=fun (x:Nat)=>0,FC:=fun (x:Nat)=>0,iO:=fun (x x_5:Nat)=>O 0,iA:=fun (x x_5:Nat)=>O 0,iB:=fun (x x_5:Nat)=>O 0,uP:=fun (x:Nat)=>O 0,uL:=fun (x:Nat)=>O 0,uD:=fun (x:Nat)=>O 0 }}/\y4.x.n<=y4.a.r/\y4.x.n<=y4.b.r) V.ok))))))))))))))))))))))))))))))))))))))))):=by kernel_rfl
end Go.Proofs.YtjiljajegheilaaGreat.En
/- TableClaims: the conditions hold; the walk. -/
namespace Go.Proofs.YtjiljajegheilaaGreat.En
open Go Go.RowKit Sx Cn Dc Ck Vc Md
theorem vhLTc {g0 g1 g2:Nat->Int} {l0 c0 l1 c1 l2 c2:Nat} {d t:Int} {near:Bool} (hu:U8 l0 g0):zae (verLTc g0 g1 g2 l0 c0 l1 c1 l2 c2 d t near):=by
 refine zae.pr (verLTc_eq ..) ?_
 (with_reducible repeat' first | exact V.okI | refine V.brT ?_ | refine V.brF ?_ | refine V.brI ?_ ?_ | refine V.anyI ?_ | refine nN_h rfl ?_ | refine V.needI ?_ ?_ | intro _)
 all_goals first
  | rfl
  | exact True.intro
  | assumption
  | exact Nat.le_refl _
  | exact ex_dec hu
  | exact ex_sc
  | exact ⟨Nat.zero_le _,Nat.zero_le _⟩
  | exact (dec_rc ‹_›).1
  | exact (dec_rc ‹_›).2
  | exact dec_gd ‹_› ‹_›
  | exact ⟨Nat.le_refl _,And.left (by assumption:okSc _ _)⟩
  | exact dec_pre hu ‹_› ‹_› (by decide)
  | exact ev_ex (dec_Y hu ‹_›)
  | exact (ev_d ‹_›).1
  | exact (ev_d ‹_›).2.1
  | exact (ev_d ‹_›).2.2.1
  | exact (ev_d ‹_›).2.2.2.1
  | exact (ev_d ‹_›).2.2.2.2.1
  | exact (ev_d ‹_›).2.2.2.2.2.1
  | exact (ev_d ‹_›).2.2.2.2.2.2.1
  | exact (ev_d ‹_›).2.2.2.2.2.2.2.1
  | exact (ev_d ‹_›).2.2.2.2.2.2.2.2
  | exact ev_ra ‹_›
  | exact ev_rb ‹_›
  | exact ev_ka ‹_› ‹_›
  | exact ev_kb ‹_› ‹_›
  | exact s_len ‹_› (by decide)
  | exact Nat.zero_le _
  | (have hY:=(dec_Y hu ‹_›).2.2.2.1; simp only [Int.ofNat_eq_natCast]; omega)
  | (rename_i D hD _ _ _ nr hn S hS V hV; exact ⟨dec_mq hu hD hV ⟨⟨rfl,rfl,rfl⟩,rfl,rfl,rfl⟩,(ev_ra hV).2,(ev_rb hV).2⟩)
  | (rename_i D hD S hS V hV; exact dec_mq hu hD hV ⟨⟨rfl,rfl,rfl⟩,rfl,rfl,rfl⟩)
  | trace_state
theorem conLTc_ok:zaj P conLTc:=.add aw18_ok (.add conDec_ok (.add cSc_ok (.add cEvS_ok (.add cMc_ok (.add cDr_ok zaj.nil)))))
theorem walkLTc (a0:Option Addr) (l0 c0:Nat) (g0:Nat->Int) (a1:Option Addr) (l1 c1:Nat) (g1:Nat->Int) (a2:Option Addr) (l2 c2:Nat) (g2:Nat->Int) (d:Int) (t:Int) (near:Bool) (W:World) (h0:zga .u8 W a0 l0 c0 g0) (h1:zga .u8 W a1 l1 c1 g1) (h2:zga .i64 W a2 l2 c2 g2) (h3:(Lit.int .i64 d).wf=true) (h4:(Lit.int .i64 t).wf=true):
  Calls P fLTc #[.slice a0 l0 c0,.slice a1 l1 c1,.slice a2 l2 c2,.int .i64 d,.int .i64 t,.bool near] W fun e w'=>e=.returned (.bool true)/\Below W.heap.size W w':=by
 refine calls_yesV (vs:=[.slice a0 l0 c0,.slice a1 l1 c1,.slice a2 l2 c2,.int .i64 d,.int .i64 t,.bool near]) conLTc_ok (ρ:=fun k i=>if i=0 then (if k=0 then addr0 a0 else if k=1 then addr0 a1 else if k=2 then addr0 a2 else none) else none) (vhLTc (g0:=g0) (g1:=g1) (g2:=g2) (l0:=l0) (c0:=c0) (l1:=l1) (c1:=c1) (l2:=l2) (c2:=c2) (d:=d) (t:=t) (near:=near) (fun e he=>u8i (h0.fits e he))) (views_inv fun k b' hk=>?_) ⟨h0.val (by simp) ⟨Nat.le_of_ble_eq_true rfl,trivial⟩,h1.val (by simp) ⟨Nat.le_of_ble_eq_true rfl,trivial⟩,h2.val (by simp) ⟨Nat.le_of_ble_eq_true rfl,trivial⟩,fun _ _=>rfl,fun _ _=>rfl,fun _ _=>rfl,trivial⟩
 rw [zag] at hk
 split at hk
 ·rename_i e; subst e
  cases hk
  exact ⟨rfl,by decide,h0.sat (by simp)⟩
 rw [zag] at hk
 split at hk
 ·rename_i e; subst e
  cases hk
  exact ⟨rfl,by decide,h1.sat (by simp)⟩
 rw [zag] at hk
 split at hk
 ·rename_i e; subst e
  cases hk
  exact ⟨rfl,by decide,h2.sat (by simp)⟩
 ·cases hk
end Go.Proofs.YtjiljajegheilaaGreat.En
