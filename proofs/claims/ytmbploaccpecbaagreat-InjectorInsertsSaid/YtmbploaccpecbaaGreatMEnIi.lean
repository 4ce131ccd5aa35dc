/- InjectorInserts: the law: what is asked. -/
import Derived.Test.YtmbploaccpecbaaGreatMEnI
import Derived.Test.YtmbploaccpecbaaGreatMMdAw16
import Derived.Test.YtmbploaccpecbaaGreatMEg
import Derived.Test.YtmbploaccpecbaaGreatMW
import Derived.Test.YtmbploaccpecbaaGreatMV
import Derived.Test.YtmbploaccpecbaaGreatMNw
import Derived.Test.YtmbploaccpecbaaGreatMMd
set_option maxHeartbeats 64000000
set_option linter.unusedVariables false
set_option linter.unusedSimpArgs false
set_option maxRecDepth 100000
open Int (ofNat)
open Go.IntKind (i64 u64)
namespace Go.Proofs.YtmbploaccpecbaaGreat.En
open Go Go.RowKit Sx Cn Dc Ck Vc Md
noncomputable section
def laNr (_:St):Option (LA (Int×Int)):=some ⟨[],fun _=>[],[4,5],fun x=>[iv x.1,iv x.2],fun s=>match tmI 4 s,tmI 5 s with | some a,some b=>some (a,b) | _,_=>none,fun _=>True,fun _=>0⟩
def fIi:FuncId:=3
def conIi:Con:=Con.add 9 conYes (Con.add 26 conDec (Con.add fSc cSc (Con.add fEv cEvS (Con.add fMt cMj con0))))
def verIi (g0 g1 g2 g3:Nat->Int) (l0 c0 l1 c1 l2 c2 l3 c3:Nat) (d t:Int) (near:Bool):V:=verF P conIi 6 8 fIi [] (.cut 3005 (Int×Int) laNr .nil .nil)
 [.c (slK 0 1 l0 c0),.c (slK 1 1 l1 c1),.c (slK 2 1 l2 c2),.c (slK 3 1 l3 c3),iv d,iv t,.c (.bv near)] ⟨[(0,ints .u8 l0 g0),(1,ints .u8 l1 g1),(2,ints .i64 l2 g2),(3,ints .i64 l3 g3)],4,fun _=>True⟩ yesV
end
end Go.Proofs.YtmbploaccpecbaaGreat.En
/- InjectorInserts: the conditions, printed by program. -/
namespace Go.Proofs.YtmbploaccpecbaaGreat.En
open Go Go.RowKit Sx Cn Dc Ck Vc Md
abbrev nj0 (a0:Nat) (a1:Nat->Int) (l:LP):LP:=(1,.pf (∀ (i:Nat),i < 1->a0<=a0) (by intros; exact Nat.le_refl _))::(1,.pf (∀ (i e:Nat),i < 1/\e < a0->a1 e=a1 e) (by intros; rfl))::l
abbrev nj1 (a0:Rk) (l:LP):LP:=(1,.pf (∀ (i e:Nat),i=0/\e < a0.n->a0.pa e=a0.pa e) (by intros; rfl))::(1,.pf (∀ (i e:Nat),i=0/\e < a0.n->a0.pc e=a0.pc e) (by intros; rfl))::l
abbrev nj2 (a0:Rk) (l:LP):LP:=(1,.pf (∀ (i e:Nat),i=0/\e < a0.n->a0.lf e=a0.lf e) (by intros; rfl))::(1,.pf (∀ (i e:Nat),i=0/\e < a0.n->a0.wt e=a0.wt e) (by intros; rfl))::l
abbrev nj3 (a0:Rk) (a1:Rm) (k:V):V:=V.need (∀ (i:Nat),i < a0.n->a0.kl i<=upto a0.n a0.kl i/\a0.kl i<=a1.k i) (nN [(1,.pf (∀ (i e:Nat),i < a0.n/\e < a0.kl i->a0.kd i e=a0.kd i e) (by intros; rfl))] k)
abbrev nj4 (a0:Rk) (l:LP):LP:=(1,.pf (∀ (i e:Nat),i=0/\e < a0.n->e=e) (by intros; rfl))::(1,.pf (∀ (i e:Nat),i=0/\e < a0.n->a0.kl e=a0.kl e) (by intros; rfl))::l
abbrev nj5 (a0:Rk) (a1:Rm) (l:LP):LP:=(1,.pf (∀ (i e:Nat),i=0/\e < a0.n->a1.k e=a1.k e) (by intros; rfl))::(1,.pf (∀ (i e:Nat),i=0/\e < a0.n->a0.st e=a0.st e) (by intros; rfl))::l
abbrev nj6 (a0:Rm) (k:V):V:=V.need (0<=0/\0<=a0.e) (nN [(5,.pf (∀ (i e:Nat),i=0/\e < 0->ofNat 0=ofNat 0) (by intros; rfl))] k)
abbrev nj7 (a0:Rk) (a1:Rm) (k:V):V:=V.need (a0.n<=a0.n/\a0.n<=a1.r) (nN [(1,.pf (∀ (i e:Nat),i=0/\e < a0.n->a0.p e=a0.p e) (by intros; rfl))] k)
theorem verIi_eq (g0 g1 g2 g3:Nat->Int) (l0 c0 l1 c1 l2 c2 l3 c3:Nat) (d t:Int) (near:Bool):V.pr .z (verIi g0 g1 g2 g3 l0 c0 l1 c1 l2 c2 l3 c3 d t near)=
 nN [(2,.lt 0 2)] (V.br (decide ((↑l2:Int) > ofNat 400)) (V.ok) (nN [(2,.lt 1 2)] (V.br (decide ((↑l3:Int) > ofNat 400)) (V.ok) (V.br (!decide ((↑l0:Int)<=ofNat 400)) (V.ok) (V.br (decide ((↑l1:Int) > ofNat 400)) (V.ok) (nN [qE d,qE t] (V.any Bool (fun (x:Bool)=>True) fun y0=>V.br y0 (V.br near (nN [(1,.neI 1 0),(2,.lt2 0 1 0 1),(1,.neI 1 0),(1,.neI 7 0),(1,.neI 1 0),(1,.neI 20 0)] (V.br (decide ((i64.wrap (d.tdiv (ofNat 1))).tmod (ofNat 20) < ofNat 0)) (nN [(1,.neI 20 0),(1,.neI 1 0),(2,.lt2 0 1 0 1),(1,.neI 1 0),(1,.neI 7 0),(1,.neI 1 0),(1,.neI 14 0)] (V.br (decide ((i64.wrap (t.tdiv (ofNat 1))).tmod (ofNat 14) < ofNat 0)) (nN [(1,.neI 14 0)] (V.need True (nN [qE (i64.wrap ((i64.wrap (d.tdiv (ofNat 1))).tmod (ofNat 20)+ofNat 20))] (nN [qE (i64.wrap ((i64.wrap (t.tdiv (ofNat 1))).tmod (ofNat 14)+ofNat 14))] (V.ok))))) (nN [(1,.neI 14 0)] (V.need True (nN [qE (i64.wrap ((i64.wrap (d.tdiv (ofNat 1))).tmod (ofNat 20)+ofNat 20)),qE ((i64.wrap (t.tdiv (ofNat 1))).tmod (ofNat 14))] V.ok))))) (nN [(1,.neI 20 0),(1,.neI 1 0),(2,.lt2 0 1 0 1),(1,.neI 1 0),(1,.neI 7 0),(1,.neI 1 0),(1,.neI 14 0)] (V.br (decide ((i64.wrap (t.tdiv (ofNat 1))).tmod (ofNat 14) < ofNat 0)) (nN [(1,.neI 14 0)] (V.need True (nN [qE ((i64.wrap (d.tdiv (ofNat 1))).tmod (ofNat 20))] (nN [qE (i64.wrap ((i64.wrap (t.tdiv (ofNat 1))).tmod (ofNat 14)+ofNat 14))] (V.ok))))) (nN [(1,.neI 14 0)] (V.need True (nN [qE ((i64.wrap (d.tdiv (ofNat 1))).tmod (ofNat 20)),qE ((i64.wrap (t.tdiv (ofNat 1))).tmod (ofNat 14))] V.ok))))))) (V.need True (nN [qE d,qE t] V.ok))) (V.any (Int×Int) (fun (x:Int×Int)=>True) fun y1=>nN (qE l0::qE c0::(1,.le 1 1)::nj0 l0 g0 []) (V.need (U8 l0 fun (e:Nat)=>g0 e) (nA (zcn g0 l0) fun y2=>nN (qE l1::qE c1::(1,.eqI 200 200)::(1,.le 1 1)::nj0 l1 g1 []) (V.need (l1<=1000000/\ofNat 0<=ofNat 200) (nA (okSc (ofNat 200)) fun y3=>nN [qE y2.W,qE y2.L,qE y2.C,qE y2.T,qE y2.D,qE y2.H,qE y2.B,qE y2.A,qE y2.P,qE y2.nP,qE y2.rc,qE y2.nU,qE y2.cu,qE y3.n,qE y3.cap,qE l2,qE c2,(1,.le 1 1)] (V.need (y2.nP<=y2.nP/\y2.nP<=y2.rc) (nN [(1,.pf (∀ (i e:Nat),i=0/\e < y2.nP->e=e) (by intros; rfl)),(1,.pf (∀ (i e:Nat),i=0/\e < y2.nP->y2.lenP e=y2.lenP e) (by intros; rfl)),(1,.pf (∀ (i e:Nat),i=0/\e < y2.nP->y2.FC e=y2.FC e) (by intros; rfl)),(1,.le 1 1)] (V.need (y2.nU<=y2.nU/\y2.nU<=y2.cu) (nN [(1,.pf (∀ (i e:Nat),i=0/\e < y2.nU->y2.uP e=y2.uP e) (by intros; rfl)),(1,.pf (∀ (i e:Nat),i=0/\e < y2.nU->y2.uL e=y2.uL e) (by intros; rfl)),(1,.pf (∀ (i e:Nat),i=0/\e < y2.nU->y2.uD e=y2.uD e) (by intros; rfl))] (V.need (∀ (i:Nat),i < y2.nP->y2.lenP i<=gd y2.nP y2.lenP i/\y2.lenP i<=gd y2.nP y2.FC i) (nN [(1,.pf (∀ (i e:Nat),i < y2.nP/\e < y2.lenP i->y2.iO i e=y2.iO i e) (by intros; rfl)),(1,.pf (∀ (i e:Nat),i < y2.nP/\e < y2.lenP i->y2.iA i e=y2.iA i e) (by intros; rfl)),(1,.pf (∀ (i e:Nat),i < y2.nP/\e < y2.lenP i->y2.iB i e=y2.iB i e) (by intros; rfl)),(1,.le 1 1)] (V.need (y3.n<=y3.n/\y3.n<=y3.cap) (nN ((1,.pf (∀ (i e:Nat),i=0/\e < y3.n->y3.ka e=y3.ka e) (by intros; rfl))::(1,.pf (∀ (i e:Nat),i=0/\e < y3.n->y3.va e=y3.va e) (by intros; rfl))::(1,.le 1 1)::nj0 l2 g2 []) (V.need (preEv y2 y3.n) (nA (okEv y2) fun y4=>V.need True (nN [qE l3,qE c3] (V.need (y4.d.W=y2.W) (V.need (y4.d.L=y2.L) (V.need (y4.d.C=y2.C) (V.need (y4.d.T=y2.T) (V.need (y4.d.D=y2.D) (V.need (y4.d.H=y2.H) (V.need (y4.d.B=y2.B) (V.need (y4.d.A=y2.A) (V.need (y4.d.P=y2.P) (nN [qE y2.W,qE y2.L,qE y2.C,qE y2.T,qE y2.D,qE y2.H] (V.need (lS y2=lS { y2 with lenP:=fun (x:Nat)=>0,FC:=fun (x:Nat)=>0,iO:=fun (x x_4:Nat)=>ofNat 0,iA:=fun (x x_4:Nat)=>ofNat 0,iB:=fun (x x_4:Nat)=>ofNat 0,uP:=fun (x:Nat)=>ofNat 0,uL:=fun (x:Nat)=>ofNat 0,uD:=fun (x:Nat)=>ofNat 0 }) (V.need (lE y2=lE { y2 with lenP:=fun (x:Nat)=>0,FC:=fun (x:Nat)=>0,iO:=fun (x x_4:Nat)=>ofNat 0,iA:=fun (x x_4:Nat)=>ofNat 0,iB:=fun (x x_4:Nat)=>ofNat 0,uP:=fun (x:Nat)=>ofNat 0,uL:=fun (x:Nat)=>ofNat 0,uD:=fun (x:Nat)=>ofNat 0 }) (V.need (lB y2=lB { y2 with lenP:=fun (x:Nat)=>0,FC:=fun (x:Nat)=>0,iO:=fun (x x_4:Nat)=>ofNat 0,iA:=fun (x x_4:Nat)=>ofNat 0,iB:=fun (x x_4:Nat)=>ofNat 0,uP:=fun (x:Nat)=>ofNat 0,uL:=fun (x:Nat)=>ofNat 0,uD:=fun (x:Nat)=>ofNat 0 }) (V.need (lQ y2=lQ { y2 with lenP:=fun (x:Nat)=>0,FC:=fun (x:Nat)=>0,iO:=fun (x x_4:Nat)=>ofNat 0,iA:=fun (x x_4:Nat)=>ofNat 0,iB:=fun (x x_4:Nat)=>ofNat 0,uP:=fun (x:Nat)=>ofNat 0,uL:=fun (x:Nat)=>ofNat 0,uD:=fun (x:Nat)=>ofNat 0 }) (V.need (lT y2=lT { y2 with lenP:=fun (x:Nat)=>0,FC:=fun (x:Nat)=>0,iO:=fun (x x_4:Nat)=>ofNat 0,iA:=fun (x x_4:Nat)=>ofNat 0,iB:=fun (x x_4:Nat)=>ofNat 0,uP:=fun (x:Nat)=>ofNat 0,uL:=fun (x:Nat)=>ofNat 0,uD:=fun (x:Nat)=>ofNat 0 }) (nN [qE y4.x.n,qE y4.a.r,(1,.eq 0 0),qE y4.a.e,qE y4.n,qE y4.a.c,qE y4.m.lk,qE y4.m.lc,qE y4.m.lo,qE y4.m.ln,qE y4.m.ct,qE y4.a.c,qL y4.n,qF y4.n y4.m.g,qE y4.now,qE y4.dr,(1,.le 1 1)] (nj7 y4.x y4.a (nN (nj1 y4.x (nj2 y4.x (nj4 y4.x (nj5 y4.x y4.a [])))) (nj3 y4.x y4.a (nN [(1,.le 1 1)] (nj6 y4.a (nN [qE y2.W,qE y2.L,qE y2.C,qE y2.T,qE y2.D,qE y2.H,qE y2.B,qE y2.A,qE y2.P,qE y2.nP,qE y2.rc,qE y2.nU,qE y2.cu,qE y4.n,qE y4.b.c,qE y4.m.lk,qE y4.m.lc,qE y4.m.lo,qE y4.m.ln,qE y4.m.ct,qE y4.now,qE y4.dr,qE y4.x.n,qE y4.b.r,(1,.eq 0 0),qE y4.b.e,qE y4.b.c,qL y4.n,qF y4.n y4.m.g,(1,.le 1 1)] (nj7 y4.x y4.b (nN (nj1 y4.x (nj2 y4.x (nj4 y4.x (nj5 y4.x y4.b [])))) (nj3 y4.x y4.b (nN [(1,.le 1 1)] (nj6 y4.b (nN [(1,.le 0 1)] (V.need (0<=y2.nP/\0<=y2.rc) (nN [(1,.le 0 1)] (V.need (0<=y2.nU/\0<=y2.cu) (nN (qE y1.fst::qE y1.snd::(2,.eq 1 1)::(1,.le 1 1)::qE y1.fst::qE y1.snd::(1,.le 1 1)::nj0 l3 g3 []) (V.need (okMi { y2 with lenP:=fun (x:Nat)=>0,FC:=fun (x:Nat)=>0,iO:=fun (x x_4:Nat)=>ofNat 0,iA:=fun (x x_4:Nat)=>ofNat 0,iB:=fun (x x_4:Nat)=>ofNat 0,uP:=fun (x:Nat)=>ofNat 0,uL:=fun (x:Nat)=>ofNat 0,uD:=fun (x:Nat)=>ofNat 0 } { y4 with d:={ y2 with lenP:=fun (x:Nat)=>0,FC:=fun (x:Nat)=>0,iO:=fun (x x_4:Nat)=>ofNat 0,iA:=fun (x x_4:Nat)=>ofNat 0,iB:=fun (x x_4:Nat)=>ofNat 0,uP:=fun (x:Nat)=>ofNat 0,uL:=fun (x:Nat)=>ofNat 0,uD:=fun (x:Nat)=>ofNat 0 }}) V.ok)))))))))))))))))))))))))))))))))))))))))))))))))))))))):=by kernel_rfl
end Go.Proofs.YtmbploaccpecbaaGreat.En
/- InjectorInserts: the conditions hold; the walk. -/
namespace Go.Proofs.YtmbploaccpecbaaGreat.En
open Go Go.RowKit Sx Cn Dc Ck Vc Md
section
variable {g:Nat->Int} {len n:Nat} {d c:Cf} {v:Ev} {l:Sc}
theorem dec_W (hu:U8 len g) (h:zcn g len d):d.W<=4/\d.H<=4/\d.nU<=900000:=by
 obtain ⟨FC,rc,cu,-,rfl⟩:=h
 have h1:=dW_r hu
 have h2:=nU_le hu
 have h3:=dH_r hu
 exact ⟨h1.2,h3.2,by show nU g len<=900000; omega⟩
theorem dec_pre (hu:U8 len g) (h:zcn g len d) (hl:okSc (ofNat 200) l):preEv d l.n:=by
 have h1:=dec_W hu h
 have h2:=hl.2
 simp only [Int.ofNat_eq_natCast] at h2
 exact ⟨dec_err hu h,dec_okC hu h,h1.1,h1.2.2,by omega⟩
theorem dec_Y (hu:U8 len g) (h:zcn g len d):okY d:=okY_of (dec_err hu h)
theorem ii_mi (hu:U8 len g) (h:zcn g len d) (hv:okEv d v) {c e:Cf} (hc:c.H=d.H) {now dr:Int}:okMi c ⟨e,v.n,v.m,v.x,now,dr,v.a,v.b⟩:=by
 have h1:=dec_W hu h
 obtain ⟨-,v1,-,v3,-,-,v6,v7,-,-,v8⟩:=hv
 have hn:=nc_4 (dec_Y hu h)
 rw [<- v1] at hn
 exact ⟨by omega,hn.1,hn.2,v3,v6,v7,v8.le (by omega)⟩
theorem dec_rc (h:zcn g len d):(d.nP<=d.nP/\d.nP<=d.rc)/\(d.nU<=d.nU/\d.nU<=d.cu):=by
 obtain ⟨FC,rc,cu,⟨h1,h2,h3⟩,rfl⟩:=h
 exact ⟨⟨Nat.le_refl _,h2⟩,Nat.le_refl _,h3⟩
theorem dec_gd (h:zcn g len d) {i:Nat} (hi:i < d.nP):d.lenP i<=gd d.nP d.lenP i/\d.lenP i<=gd d.nP d.FC i:=by
 obtain ⟨FC,rc,cu,⟨h1,h2,h3⟩,rfl⟩:=h
 unfold gd
 rw [if_pos hi,if_pos hi]
 exact ⟨Nat.le_refl _,h1 i hi⟩
theorem s_len {l:Nat} (h:decide ((l:Int) > ofNat 400)=false):l<=1000000/\ofNat 0<=ofNat 200:=by
 have:=of_decide_eq_false h
 simp only [Int.ofNat_eq_natCast] at this ⊢
 omega
theorem ex_dec (hu:U8 len g):∃ d,zcn g len d:=⟨_,fun e=>lenP g len e,nP g len,nU g len,⟨fun _ _=>Nat.le_refl _,Nat.le_refl _,Nat.le_refl _⟩,rfl⟩
theorem ex_sc:∃ l,okSc (ofNat 200) l:=⟨⟨0,0,fun _=>0,fun _=>0⟩,Nat.le_refl _,by show ((0:Nat):Int)<=((200:Nat):Int); decide⟩
end
theorem vhIi {g0 g1 g2 g3:Nat->Int} {l0 c0 l1 c1 l2 c2 l3 c3:Nat} {d t:Int} {near:Bool} (hu:U8 l0 g0):zae (verIi g0 g1 g2 g3 l0 c0 l1 c1 l2 c2 l3 c3 d t near):=by
 refine zae.pr (verIi_eq ..) ?_
 (repeat' first | with_reducible exact V.okI | with_reducible refine V.brT ?_ | with_reducible refine V.brF ?_ | with_reducible refine V.brI ?_ ?_ | with_reducible refine V.anyI ?_ | with_reducible refine nN_h rfl ?_ | with_reducible refine V.needI ?_ ?_ | with_reducible intro _)
 all_goals first
  | rfl
  | exact True.intro
  | assumption
  | exact Nat.le_refl _
  | exact ex_dec hu
  | exact ex_sc
  | exact ⟨Nat.zero_le _,Nat.zero_le _⟩
  | exact (dec_rc ‹_›).1
  | exact (dec_rc ‹_›).2
  | exact dec_gd ‹_› ‹_›
  | exact ⟨Nat.le_refl _,And.left (by assumption:okSc _ _)⟩
  | exact dec_pre hu ‹_› ‹_›
  | exact ev_ex (dec_Y hu ‹_›)
  | exact (ev_d ‹_›).1
  | exact (ev_d ‹_›).2.1
  | exact (ev_d ‹_›).2.2.1
  | exact (ev_d ‹_›).2.2.2.1
  | exact (ev_d ‹_›).2.2.2.2.1
  | exact (ev_d ‹_›).2.2.2.2.2.1
  | exact (ev_d ‹_›).2.2.2.2.2.2.1
  | exact (ev_d ‹_›).2.2.2.2.2.2.2.1
  | exact (ev_d ‹_›).2.2.2.2.2.2.2.2
  | exact ev_ra ‹_›
  | exact ev_rb ‹_›
  | exact ev_ka ‹_› ‹_›
  | exact ev_kb ‹_› ‹_›
  | (rename_i D hD S hS V hV; exact ii_mi hu hD hV rfl)
  | exact s_len ‹_›
  | trace_state
theorem conIi_ok:zai P conIi:=.add aw16_ok (.add conDec_ok (.add cSc_ok (.add cEvS_ok (.add cMj_ok zai.nil))))
theorem walkIi (a0:Option Addr) (l0 c0:Nat) (g0:Nat->Int) (a1:Option Addr) (l1 c1:Nat) (g1:Nat->Int) (a2:Option Addr) (l2 c2:Nat) (g2:Nat->Int) (a3:Option Addr) (l3 c3:Nat) (g3:Nat->Int) (d t:Int) (near:Bool) (W:World) (h0:zfa .u8 W a0 l0 c0 g0) (h1:zfa .u8 W a1 l1 c1 g1) (h2:zfa .i64 W a2 l2 c2 g2) (h3:zfa .i64 W a3 l3 c3 g3) (h4:(Lit.int .i64 d).wf=true) (h5:(Lit.int .i64 t).wf=true):
  Calls P fIi #[.slice a0 l0 c0,.slice a1 l1 c1,.slice a2 l2 c2,.slice a3 l3 c3,.int .i64 d,.int .i64 t,.bool near] W fun e w'=>e=.returned (.bool true)/\Below W.heap.size W w':=by
 refine calls_yesV (vs:=[.slice a0 l0 c0,.slice a1 l1 c1,.slice a2 l2 c2,.slice a3 l3 c3,.int .i64 d,.int .i64 t,.bool near]) conIi_ok (ρ:=fun k i=>if i=0 then (if k=0 then addr0 a0 else if k=1 then addr0 a1 else if k=2 then addr0 a2 else if k=3 then addr0 a3 else none) else none) (vhIi (g0:=g0) (g1:=g1) (g2:=g2) (g3:=g3) (l0:=l0) (c0:=c0) (l1:=l1) (c1:=c1) (l2:=l2) (c2:=c2) (l3:=l3) (c3:=c3) (d:=d) (t:=t) (near:=near) (fun e he=>u8i (h0.fits e he))) (views_inv fun k b' hk=>?_) ⟨h0.val (by simp) ⟨Nat.le_of_ble_eq_true rfl,trivial⟩,h1.val (by simp) ⟨Nat.le_of_ble_eq_true rfl,trivial⟩,h2.val (by simp) ⟨Nat.le_of_ble_eq_true rfl,trivial⟩,h3.val (by simp) ⟨Nat.le_of_ble_eq_true rfl,trivial⟩,fun _ _=>rfl,fun _ _=>rfl,fun _ _=>rfl,trivial⟩
 rw [zag] at hk
 split at hk
 ·rename_i e; subst e
  cases hk
  exact ⟨rfl,by decide,h0.sat (by simp)⟩
 rw [zag] at hk
 split at hk
 ·rename_i e; subst e
  cases hk
  exact ⟨rfl,by decide,h1.sat (by simp)⟩
 rw [zag] at hk
 split at hk
 ·rename_i e; subst e
  cases hk
  exact ⟨rfl,by decide,h2.sat (by simp)⟩
 rw [zag] at hk
 split at hk
 ·rename_i e; subst e
  cases hk
  exact ⟨rfl,by decide,h3.sat (by simp)⟩
 ·cases hk
end Go.Proofs.YtmbploaccpecbaaGreat.En
