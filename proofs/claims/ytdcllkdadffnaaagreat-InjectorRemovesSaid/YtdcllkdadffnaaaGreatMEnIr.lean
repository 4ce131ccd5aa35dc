/- InjectorRemoves: the law: what is asked. -/
import Derived.Test.YtdcllkdadffnaaaGreatMEnMk
import Derived.Test.YtdcllkdadffnaaaGreatMMdAw16
import Derived.Test.YtdcllkdadffnaaaGreatMEg
import Derived.Test.YtdcllkdadffnaaaGreatMEnI
import Derived.Test.YtdcllkdadffnaaaGreatMW
import Derived.Test.YtdcllkdadffnaaaGreatMV
import Derived.Test.YtdcllkdadffnaaaGreatMNw
import Derived.Test.YtdcllkdadffnaaaGreatMMd
set_option maxHeartbeats 64000000
set_option linter.unusedVariables false
set_option linter.unusedSimpArgs false
set_option maxRecDepth 100000
open Go.IntKind (i64 u64)
open Int renaming ofNat -> O
open Nat renaming le_refl -> Z, le_of_ble_eq_true -> zd
open Go.Proofs.YtdcllkdadffnaaaGreat.Sx.V renaming need -> U
namespace Go.Proofs.YtdcllkdadffnaaaGreat.En
open Go Go.RowKit Sx Cn Dc Ck Vc Md
noncomputable section
def fIr:FuncId:=3
def conIr:Con:=Con.add 8 conYes (Con.add 24 conDec (Con.add fSc cSc (Con.add fEv cEvS (Con.add fMt cMz con0))))
def verIr (g0 g1 g2 g3:Nat->Int) (l0 c0 l1 c1 l2 c2 l3 c3:Nat) (w:Int):V:=verF P conIr 6 8 fIr [] .nil
 [.c (slK 0 1 l0 c0),.c (slK 1 1 l1 c1),.c (slK 2 1 l2 c2),.c (slK 3 1 l3 c3),iv w] ⟨[(0,ints .u8 l0 g0),(1,ints .u8 l1 g1),(2,ints .i64 l2 g2),(3,ints .i64 l3 g3)],4,fun _=>True⟩ yesV
end
end Go.Proofs.YtdcllkdadffnaaaGreat.En
/- InjectorRemoves: the conditions, printed by program. -/
namespace Go.Proofs.YtdcllkdadffnaaaGreat.En
open Go Go.RowKit Sx Cn Dc Ck Vc Md
abbrev znir0 (a0:Nat) (a1:Nat->Int) (l:LP):LP:=(1,.pf (∀ (i:Nat),i < 1->a0<=a0) (by intros; exact Z _))::(1,.pf (∀ (i e:Nat),i < 1/\e < a0->a1 e=a1 e) (by intros; rfl))::l
abbrev znir1 (l:LP):LP:=qF 0 (fun (e:Nat)=>O 0)::qF 0 (fun (e:Nat)=>O 0)::l
abbrev znir2 (a0:Rk) (l:LP):LP:=(1,.pf (∀ (i e:Nat),i=0/\e < a0.n->a0.pa e=a0.pa e) (by intros; rfl))::(1,.pf (∀ (i e:Nat),i=0/\e < a0.n->a0.pc e=a0.pc e) (by intros; rfl))::l
abbrev znir3 (a0:Rk) (l:LP):LP:=(1,.pf (∀ (i e:Nat),i=0/\e < a0.n->a0.lf e=a0.lf e) (by intros; rfl))::(1,.pf (∀ (i e:Nat),i=0/\e < a0.n->a0.wt e=a0.wt e) (by intros; rfl))::l
abbrev znir4 (a0:Rk) (a1:Rm) (k:V):V:=U (∀ (i:Nat),i < a0.n->a0.kl i<=upto a0.n a0.kl i/\a0.kl i<=a1.k i) (nN [(1,.pf (∀ (i e:Nat),i < a0.n/\e < a0.kl i->a0.kd i e=a0.kd i e) (by intros; rfl))] k)
abbrev znir5 (a0:Rk) (l:LP):LP:=(1,.pf (∀ (i e:Nat),i=0/\e < a0.n->e=e) (by intros; rfl))::(1,.pf (∀ (i e:Nat),i=0/\e < a0.n->a0.kl e=a0.kl e) (by intros; rfl))::l
abbrev znir6 (a0:Rk) (a1:Rm) (l:LP):LP:=(1,.pf (∀ (i e:Nat),i=0/\e < a0.n->a1.k e=a1.k e) (by intros; rfl))::(1,.pf (∀ (i e:Nat),i=0/\e < a0.n->a0.st e=a0.st e) (by intros; rfl))::l
abbrev znir7 (a0:Rk) (a1:Rm) (k:V):V:=U (a0.n<=a0.n/\a0.n<=a1.r) (nN [(1,.pf (∀ (i e:Nat),i=0/\e < a0.n->a0.p e=a0.p e) (by intros; rfl))] k)
theorem verIr_eq (g0 g1 g2 g3:Nat->Int) (l0 c0 l1 c1 l2 c2 l3 c3:Nat) (w:Int):V.pr .z (verIr g0 g1 g2 g3 l0 c0 l1 c1 l2 c2 l3 c3 w)=
 nN [(2,.lt 0 2)] (V.br (decide ((↑l2:Int) > O 400)) (V.ok) (nN [(2,.lt 1 2)] (V.br (decide ((↑l3:Int) > O 400)) (V.ok) (V.br (!decide ((↑l0:Int)<=O 400)) (V.ok) (V.br (decide ((↑l1:Int) > O 400)) (V.ok) (nN (qE l0::qE c0::(1,.le 1 1)::znir0 l0 g0 []) (U (U8 l0 fun (e:Nat)=>g0 e) (nA (zcn g0 l0) fun y0=>nN (qE l1::qE c1::(1,.eqI 200 200)::(1,.le 1 1)::znir0 l1 g1 []) (U (l1<=1000000/\O 0<=O 200) (nA (okSc (O 200)) fun y1=>nN [qE y0.W,qE y0.L,qE y0.C,qE y0.T,qE y0.D,qE y0.H,qE y0.B,qE y0.A,qE y0.P,qE y0.nP,qE y0.rc,qE y0.nU,qE y0.cu,qE y1.n,qE y1.cap,qE l2,qE c2,(1,.le 1 1)] (U (y0.nP<=y0.nP/\y0.nP<=y0.rc) (nN [(1,.pf (∀ (i e:Nat),i=0/\e < y0.nP->e=e) (by intros; rfl)),(1,.pf (∀ (i e:Nat),i=0/\e < y0.nP->y0.lenP e=y0.lenP e) (by intros; rfl)),(1,.pf (∀ (i e:Nat),i=0/\e < y0.nP->y0.FC e=y0.FC e) (by intros; rfl)),(1,.le 1 1)] (U (y0.nU<=y0.nU/\y0.nU<=y0.cu) (nN [(1,.pf (∀ (i e:Nat),i=0/\e < y0.nU->y0.uP e=y0.uP e) (by intros; rfl)),(1,.pf (∀ (i e:Nat),i=0/\e < y0.nU->y0.uL e=y0.uL e) (by intros; rfl)),(1,.pf (∀ (i e:Nat),i=0/\e < y0.nU->y0.uD e=y0.uD e) (by intros; rfl))] (U (∀ (i:Nat),i < y0.nP->y0.lenP i<=gd y0.nP y0.lenP i/\y0.lenP i<=gd y0.nP y0.FC i) (nN [(1,.pf (∀ (i e:Nat),i < y0.nP/\e < y0.lenP i->y0.iO i e=y0.iO i e) (by intros; rfl)),(1,.pf (∀ (i e:Nat),i < y0.nP/\e < y0.lenP i->y0.iA i e=y0.iA i e) (by intros; rfl)),(1,.pf (∀ (i e:Nat),i < y0.nP/\e < y0.lenP i->y0.iB i e=y0.iB i e) (by intros; rfl)),(1,.le 1 1)] (U (y1.n<=y1.n/\y1.n<=y1.cap) (nN ((1,.pf (∀ (i e:Nat),i=0/\e < y1.n->y1.ka e=y1.ka e) (by intros; rfl))::(1,.pf (∀ (i e:Nat),i=0/\e < y1.n->y1.va e=y1.va e) (by intros; rfl))::(1,.le 1 1)::znir0 l2 g2 []) (U (preEv y0 y1.n) (nA (okEv y0) fun y2=>U True (nN [qE l3,qE c3] (U (y2.d.W=y0.W) (U (y2.d.L=y0.L) (U (y2.d.C=y0.C) (U (y2.d.T=y0.T) (U (y2.d.D=y0.D) (U (y2.d.H=y0.H) (U (y2.d.B=y0.B) (U (y2.d.A=y0.A) (U (y2.d.P=y0.P) (nN [qE y0.W,qE y0.L,qE y0.C,qE y0.T,qE y0.D,qE y0.H] (U (lS y0=lS { y0 with lenP:=fun (x:Nat)=>0,FC:=fun (x:Nat)=>0,iO:=fun (x x_3:Nat)=>O 0,iA:=fun (x x_3:Nat)=>O 0,iB:=fun (x x_3:Nat)=>O 0,uP:=fun (x:Nat)=>O 0,uL:=fun (x:Nat)=>O 0,uD:=fun (x:Nat)=>O 0 }) (U (lE y0=lE { y0 with lenP:=fun (x:Nat)=>0,FC:=fun (x:Nat)=>0,iO:=fun (x x_3:Nat)=>O 0,iA:=fun (x x_3:Nat)=>O 0,iB:=fun (x x_3:Nat)=>O 0,uP:=fun (x:Nat)=>O 0,uL:=fun (x:Nat)=>O 0,uD:=fun (x:Nat)=>O 0 }) (U (lB y0=lB { y0 with lenP:=fun (x:Nat)=>0,FC:=fun (x:Nat)=>0,iO:=fun (x x_3:Nat)=>O 0,iA:=fun (x x_3:Nat)=>O 0,iB:=fun (x x_3:Nat)=>O 0,uP:=fun (x:Nat)=>O 0,uL:=fun (x:Nat)=>O 0,uD:=fun (x:Nat)=>O 0 }) (U (lQ y0=lQ { y0 with lenP:=fun (x:Nat)=>0,FC:=fun (x:Nat)=>0,iO:=fun (x x_3:Nat)=>O 0,iA:=fun (x x_3:Nat)=>O 0,iB:=fun (x x_3:Nat)=>O 0,uP:=fun (x:Nat)=>O 0,uL:=fun (x:Nat)=>O 0,uD:=fun (x:Nat)=>O 0 }) (U (lT y0=lT { y0 with lenP:=fun (x:Nat)=>0,FC:=fun (x:Nat)=>0,iO:=fun (x x_3:Nat)=>O 0,iA:=fun (x x_3:Nat)=>O 0,iB:=fun (x x_3:Nat)=>O 0,uP:=fun (x:Nat)=>O 0,uL:=fun (x:Nat)=>O 0,uD:=fun (x:Nat)=>O 0 }) (nN [qE y2.x.n,qE y2.a.r,(1,.eq 0 0),qE y2.a.e,qE y2.n,qE y2.a.c,qE y2.m.lk,qE y2.m.lc,qE y2.m.lo,qE y2.m.ln,qE y2.m.ct,qE y2.a.c,qL y2.n,qF y2.n y2.m.g,qE y2.now,qE y2.dr,(1,.le 1 1)] (znir7 y2.x y2.a (nN (znir2 y2.x (znir3 y2.x (znir5 y2.x (znir6 y2.x y2.a [])))) (znir4 y2.x y2.a (nN (qE y2.a.e::(1,.le 0 0)::znir1 (znir1 [qF 0 (fun (e:Nat)=>O 0),qE y0.W,qE y0.L,qE y0.C,qE y0.T,qE y0.D,qE y0.H,qE y0.B,qE y0.A,qE y0.P,qE y0.nP,qE y0.rc,qE y0.nU,qE y0.cu,qE y2.n,qE y2.b.c,qE y2.m.lk,qE y2.m.lc,qE y2.m.lo,qE y2.m.ln,qE y2.m.ct,qE y2.now,qE y2.dr,qE y2.x.n,qE y2.b.r,(1,.eq 0 0),qE y2.b.e,qE y2.b.c,qL y2.n,qF y2.n y2.m.g,(1,.le 1 1)])) (znir7 y2.x y2.b (nN (znir2 y2.x (znir3 y2.x (znir5 y2.x (znir6 y2.x y2.b [])))) (znir4 y2.x y2.b (nN (qE y2.b.e::(1,.le 0 0)::znir1 (znir1 [qF 0 (fun (e:Nat)=>O 0),(1,.le 0 1)])) (U (0<=y0.nP/\0<=y0.rc) (nN [(1,.le 0 1)] (U (0<=y0.nU/\0<=y0.cu) (nN (qE w::(2,.eq 1 1)::(1,.le 1 1)::qE w::(1,.le 1 1)::znir0 l3 g3 []) (U (okMi { y0 with lenP:=fun (x:Nat)=>0,FC:=fun (x:Nat)=>0,iO:=fun (x x_3:Nat)=>O 0,iA:=fun (x x_3:Nat)=>O 0,iB:=fun (x x_3:Nat)=>O 0,uP:=fun (x:Nat)=>O 0,uL:=fun (x:Nat)=>O 0,uD:=fun (x:Nat)=>O 0 } { y2 with d:={ y0 with lenP:=fun (x:Nat)=>0,FC:=fun (x:Nat)=>0,iO:=fun (x x_3:Nat)=>O 0,iA:=fun (x x_3:Nat)=>O 0,iB:=fun (x x_3:Nat)=>O 0,uP:=fun (x:Nat)=>O 0,uL:=fun (x:Nat)=>O 0,uD:=fun (x:Nat)=>O 0 }}) V.ok)))))))))))))))))))))))))))))))))))))))))))))))))):=by kernel_rfl
end Go.Proofs.YtdcllkdadffnaaaGreat.En
/- InjectorRemoves: the conditions hold; the walk. -/
namespace Go.Proofs.YtdcllkdadffnaaaGreat.En
open Go Go.RowKit Sx Cn Dc Ck Vc Md
section
variable {g:Nat->Int} {len n:Nat} {d c:Cf} {v:Ev} {l:Sc}
theorem dec_W (hu:U8 len g) (h:zcn g len d):d.W<=4/\d.H<=4/\d.nU<=900000:=by
 obtain ⟨FC,rc,cu,-,rfl⟩:=h
 have h1:=dW_r hu
 have h2:=nU_le hu
 have h3:=dH_r hu
 exact ⟨h1.2,h3.2,by show nU g len<=900000; omega⟩
theorem dec_pre (hu:U8 len g) (h:zcn g len d) (hl:okSc (O 200) l):preEv d l.n:=by
 have h1:=dec_W hu h
 have h2:=hl.2
 simp only [Int.ofNat_eq_natCast] at h2
 exact ⟨dec_err hu h,dec_okC hu h,h1.1,h1.2.2,by omega⟩
theorem dec_Y (hu:U8 len g) (h:zcn g len d):okY d:=okY_of (dec_err hu h)
theorem ii_mi (hu:U8 len g) (h:zcn g len d) (hv:okEv d v) {c e:Cf} (hc:c.H=d.H) {now dr:Int}:okMi c ⟨e,v.n,v.m,v.x,now,dr,v.a,v.b⟩:=by
 have h1:=dec_W hu h
 obtain ⟨-,v1,-,v3,-,-,v6,v7,-,-,v8⟩:=hv
 have hn:=nc_4 (dec_Y hu h)
 rw [<- v1] at hn
 exact ⟨by omega,hn.1,hn.2,v3,v6,v7,v8.le (by omega)⟩
theorem dec_rc (h:zcn g len d):(d.nP<=d.nP/\d.nP<=d.rc)/\(d.nU<=d.nU/\d.nU<=d.cu):=by
 obtain ⟨FC,rc,cu,⟨h1,h2,h3⟩,rfl⟩:=h
 exact ⟨⟨Z _,h2⟩,Z _,h3⟩
theorem dec_gd (h:zcn g len d) {i:Nat} (hi:i < d.nP):d.lenP i<=gd d.nP d.lenP i/\d.lenP i<=gd d.nP d.FC i:=by
 obtain ⟨FC,rc,cu,⟨h1,h2,h3⟩,rfl⟩:=h
 unfold gd
 rw [if_pos hi,if_pos hi]
 exact ⟨Z _,h1 i hi⟩
theorem s_len {l:Nat} (h:decide ((l:Int) > O 400)=false):l<=1000000/\O 0<=O 200:=by
 have:=of_decide_eq_false h
 simp only [Int.ofNat_eq_natCast] at this ⊢
 omega
theorem ex_dec (hu:U8 len g):∃ d,zcn g len d:=⟨_,fun e=>lenP g len e,nP g len,nU g len,⟨fun _ _=>Z _,Z _,Z _⟩,rfl⟩
theorem ex_sc:∃ l,okSc (O 200) l:=⟨⟨0,0,fun _=>0,fun _=>0⟩,Z _,by show ((0:Nat):Int)<=((200:Nat):Int); decide⟩
end
theorem vhIr {g0 g1 g2 g3:Nat->Int} {l0 c0 l1 c1 l2 c2 l3 c3:Nat} {w:Int} (hu:U8 l0 g0):zae (verIr g0 g1 g2 g3 l0 c0 l1 c1 l2 c2 l3 c3 w):=by
 refine zae.pr (verIr_eq ..) ?_
 (with_reducible repeat' first | exact V.okI | refine V.brT ?_ | refine V.brF ?_ | refine V.brI ?_ ?_ | refine V.anyI ?_ | refine nN_h rfl ?_ | refine V.needI ?_ ?_ | intro _)
 all_goals first
  | rfl
  | exact True.intro
  | assumption
  | exact Z _
  | exact ex_dec hu
  | exact ex_sc
  | exact ⟨Nat.zero_le _,Nat.zero_le _⟩
  | exact (dec_rc ‹_›).1
  | exact (dec_rc ‹_›).2
  | exact dec_gd ‹_› ‹_›
  | exact ⟨Z _,And.left (by assumption:okSc _ _)⟩
  | exact dec_pre hu ‹_› ‹_›
  | exact ev_ex (dec_Y hu ‹_›)
  | exact (ev_d ‹_›).1
  | exact (ev_d ‹_›).2.1
  | exact (ev_d ‹_›).2.2.1
  | exact (ev_d ‹_›).2.2.2.1
  | exact (ev_d ‹_›).2.2.2.2.1
  | exact (ev_d ‹_›).2.2.2.2.2.1
  | exact (ev_d ‹_›).2.2.2.2.2.2.1
  | exact (ev_d ‹_›).2.2.2.2.2.2.2.1
  | exact (ev_d ‹_›).2.2.2.2.2.2.2.2
  | exact ev_ra ‹_›
  | exact ev_rb ‹_›
  | exact ev_ka ‹_› ‹_›
  | exact ev_kb ‹_› ‹_›
  | (rename_i D hD S hS V hV; exact ii_mi hu hD hV rfl)
  | exact s_len ‹_›
  | trace_state
theorem conIr_ok:zaj P conIr:=.add aw16_ok (.add conDec_ok (.add cSc_ok (.add cEvS_ok (.add cMz_ok zaj.nil))))
theorem walkIr (a0:Option Addr) (l0 c0:Nat) (g0:Nat->Int) (a1:Option Addr) (l1 c1:Nat) (g1:Nat->Int) (a2:Option Addr) (l2 c2:Nat) (g2:Nat->Int) (a3:Option Addr) (l3 c3:Nat) (g3:Nat->Int) (w:Int) (W:World) (h0:zfr .u8 W a0 l0 c0 g0) (h1:zfr .u8 W a1 l1 c1 g1) (h2:zfr .i64 W a2 l2 c2 g2) (h3:zfr .i64 W a3 l3 c3 g3) (h4:(Lit.int .i64 w).wf=true):
  Calls P fIr #[.slice a0 l0 c0,.slice a1 l1 c1,.slice a2 l2 c2,.slice a3 l3 c3,.int .i64 w] W fun e w'=>e=.returned (.bool true)/\Below W.heap.size W w':=by
 refine calls_yesV (vs:=[.slice a0 l0 c0,.slice a1 l1 c1,.slice a2 l2 c2,.slice a3 l3 c3,.int .i64 w]) conIr_ok (ρ:=fun k i=>if i=0 then (if k=0 then addr0 a0 else if k=1 then addr0 a1 else if k=2 then addr0 a2 else if k=3 then addr0 a3 else none) else none) (vhIr (g0:=g0) (g1:=g1) (g2:=g2) (g3:=g3) (l0:=l0) (c0:=c0) (l1:=l1) (c1:=c1) (l2:=l2) (c2:=c2) (l3:=l3) (c3:=c3) (w:=w) (fun e he=>u8i (h0.fits e he))) (views_inv fun k b' hk=>?_) ⟨h0.val (by simp) ⟨zd rfl,trivial⟩,h1.val (by simp) ⟨zd rfl,trivial⟩,h2.val (by simp) ⟨zd rfl,trivial⟩,h3.val (by simp) ⟨zd rfl,trivial⟩,fun _ _=>rfl,trivial⟩
 rw [zag] at hk
 split at hk
 ·rename_i e; subst e
  cases hk
  exact ⟨rfl,by decide,h0.sat (by simp)⟩
 rw [zag] at hk
 split at hk
 ·rename_i e; subst e
  cases hk
  exact ⟨rfl,by decide,h1.sat (by simp)⟩
 rw [zag] at hk
 split at hk
 ·rename_i e; subst e
  cases hk
  exact ⟨rfl,by decide,h2.sat (by simp)⟩
 rw [zag] at hk
 split at hk
 ·rename_i e; subst e
  cases hk
  exact ⟨rfl,by decide,h3.sat (by simp)⟩
 ·cases hk
end Go.Proofs.YtdcllkdadffnaaaGreat.En
