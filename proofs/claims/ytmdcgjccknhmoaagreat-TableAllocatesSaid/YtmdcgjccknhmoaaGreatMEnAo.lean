/- Allocate of the table, its one line with the reference's: what is asked. -/
import Derived.Test.YtmdcgjccknhmoaaGreatMEnG
import Derived.Test.YtmdcgjccknhmoaaGreatMEnCx
import Derived.Test.YtmdcgjccknhmoaaGreatMEg
import Derived.Test.YtmdcgjccknhmoaaGreatMW
import Derived.Test.YtmdcgjccknhmoaaGreatMV
import Derived.Test.YtmdcgjccknhmoaaGreatMMd
set_option maxHeartbeats 64000000
set_option linter.unusedVariables false
set_option linter.unusedSimpArgs false
set_option maxRecDepth 100000
open Go.IntKind (i64 u64)
open Int renaming ofNat -> O
open Nat renaming le_refl -> Z
open Go.Proofs.YtmdcgjccknhmoaaGreat.Sx.V renaming need -> U
namespace Go.Proofs.YtmdcgjccknhmoaaGreat.En
open Go Go.RowKit Sx Cn Dc Ck Vc Md
noncomputable section
def aoB:Blk:=.own 104 3 ([.kb false,.ki .i64 0,.ki .i64 0].map some)
def aoX:SC:=.ifc 100 14 (.k 0) (.k 0) 0 3
def aoF:List Col:=frF 12 (.ki .i64 1) z6 z6 z6 z6 z6 z6 z6 zU zU zU zU
def hAo (c:Cf) (v:Ev) (cf:Nat):HL:=[(0,eVw c v),(1,pmB 2 v.n v.a.c v.m),(2,wRow v.a.c v.n v.m),(3,clkB v.now v.dr),(4,v.x.rowV 5 v.a.k),(5,v.x.famV),(6,evV),
 (7,(eR c v).b 12 13 8 9 11),(8,wRow v.b.c v.n v.m),(9,v.x.rowV 10 v.b.k),(10,v.x.famV),(11,evV),(12,dum 1),(13,dum 3),(14,aoB),(15,maB 16 1 cf),(16,.row tFr cf 1 aoF)]
def conAo:Con:=Con.add fRA cRA (Con.add fSm cSm (conU con0))
theorem conAo_ok:zai P conAo:=.add cRA_ok (.add cSm_ok (conU_ok zai.nil))
def vAo (c:Cf) (v:Ev) (cf:Nat):V:=verF P conAo 6 8 fMt [] (.unroll [] .nil) (argM0 aoX 5) ⟨hAo c v cf,17,fun _=>True⟩ (yesF 17)
def cAo:List SV->Hp->Out (SV×Hp):=fun args H=>match args with
 | [.c (.ptr ke _ _ _ _),.c (.ptr kr _ _ _ _),.c (.ifc t kx _ _ _ _),.c (.ptr ky _ _ _ _),.c .nils,_]=>fN ke fun ke=>fN kr fun kr=>fN kx fun kx=>fN ky fun ky=>fN (scK (zay ky 0 H.h)) fun kf=>match rdMt ke kr H.h,frABD kf H.h with
  | some (c,v,σ,τ),some (n,a,b,d,cf)=>match Nat.beq n.toNat 12 with
   | true=>useP (σ++τ++[kx,ky,kf]) 17 (argM0 aoX 5) (hAo c v cf) (yesO 17 (okMq c v)) args H
   | false=>.bad 480
  | _,_=>.bad 482
 | _=>.bad 483
end
end Go.Proofs.YtmdcgjccknhmoaaGreat.En
/- Allocate: the conditions, printed by program. -/
namespace Go.Proofs.YtmdcgjccknhmoaaGreat.En
open Go Go.RowKit Sx Cn Dc Ck Vc Md
abbrev znao0 (a0:Rk) (l:LP):LP:=(1,.pf (∀ (i:Nat),i < a0.n->a0.kl i<=a0.kl i) (by intros; exact Z _))::(1,.pf (∀ (i e:Nat),i < a0.n/\e < a0.kl i->a0.kd i e=a0.kd i e) (by intros; rfl))::l
abbrev znao3 (l:LP):LP:=(1,.le 1 1)::(1,.pf (∀ (i:Nat),i < 1->1<=1) (by intros; exact Z _))::l
abbrev znao4 (a0:Ev) (a1:Rm) (a2 a3:Mm) (k:V):V:=U (a0.n<=a0.n/\a0.n<=a1.c) (U (∀ (i e:Nat),i=0/\e < a0.n->a2.g e=a3.g e) k)
abbrev znao6 (a0:Nat) (k:V):V:=U (O 0<=O 0/\O 0<=O 0/\O 0<=(↑a0:Int)) (nN [(12,.lt2 0 1 0 1)] k)
abbrev znao7 (a0 a1:Mm) (k:V):V:=U (decide (a0.ct > i64.wrap (a1.ct+O 1))=false) (nN [(6,.lt2 0 1 0 1)] k)
abbrev znao8 (a0:Rm) (l:LP):LP:=qE a0.r::(1,.eq 0 0)::qE a0.e::l
abbrev znao9 (a0:Rk) (a1:Rm) (l:LP):LP:=(1,.le 1 1)::(1,.pf (∀ (i:Nat),i < 1->a0.n<=a0.n) (by intros; exact Z _))::(1,.pf (∀ (i e:Nat),i < 1/\e < a0.n->a0.p e=a0.p e) (by intros; rfl))::(1,.pf (∀ (i e:Nat),i < 1/\e < a0.n->a0.pa e=a0.pa e) (by intros; rfl))::(1,.pf (∀ (i e:Nat),i < 1/\e < a0.n->a0.pc e=a0.pc e) (by intros; rfl))::(1,.pf (∀ (i e:Nat),i < 1/\e < a0.n->a0.lf e=a0.lf e) (by intros; rfl))::(1,.pf (∀ (i e:Nat),i < 1/\e < a0.n->a0.wt e=a0.wt e) (by intros; rfl))::(1,.pf (∀ (i e:Nat),i < 1/\e < a0.n->e=e) (by intros; rfl))::(1,.pf (∀ (i e:Nat),i < 1/\e < a0.n->a0.kl e=a0.kl e) (by intros; rfl))::(1,.pf (∀ (i e:Nat),i < 1/\e < a0.n->a1.k e=a1.k e) (by intros; rfl))::(1,.pf (∀ (i e:Nat),i < 1/\e < a0.n->a0.st e=a0.st e) (by intros; rfl))::(1,.le 1 1)::(1,.pf (∀ (i:Nat),i < 1->0<=0) (by intros; exact Z _))::(5,.pf (∀ (i e:Nat),i < 1/\e < 0->O 0=O 0) (by intros; rfl))::l
abbrev znao10 (a0 a1:Mm) (k:V):V:=U (a0.lk=a1.lk) (U (a0.lc=a1.lc) (U (a0.lo=a1.lo) (U (a0.ln=a1.ln) (U (a0.ct=a1.ct) k))))
abbrev znao12 (a0:Rm) (l:LP):LP:=znao8 a0 ((1,.le 1 1)::l)
abbrev ze8 (a0:Mm) (a1:Ev) (a2:Rm) (k:V):V:=nN [qE a0.ct,(1,.le 1 1)] (U (a1.n<=a1.n/\a1.n<=a2.c) (nN [(1,.pf (∀ (i e:Nat),i=0/\e < a1.n->a0.g e=a0.g e) (by intros; rfl))] k))
abbrev znao1 (a0:Rk) (a1:Ev) (a2:Mm) (k:V):V:=nN (znao0 a0 []) (U (okCm (Cm.mk a1.n a2 a1.now a0 0 (Evs.mk (fun (i:Nat)=>O 0) (fun (i:Nat)=>O 0) (fun (i:Nat)=>O 0) (fun (i:Nat)=>O 0) fun (i:Nat)=>O 0))) k)
abbrev znaos0 (cf:Nat) (v:Ev) (y0 y1:Mm):V:=nN [(6,.lt2 0 1 0 1)] (znao6 cf (nN (znao3 (qE v.x.n::znao8 v.a [qE v.n,qE v.a.c,qE y0.lk,qE y0.lc,qE y0.lo,qE y0.ln])) (ze8 y0 v v.a (nN (qE v.now::znao9 v.x v.a [qE v.n,qE v.b.c]) (znao10 y1 y0 (nN (qE v.now::qE v.x.n::znao12 v.b []) (znao4 v v.b y1 y0 (nN (znao9 v.x v.b (qL v.x.n::znao0 v.x [qL v.x.n])) (znao1 v.x v y0 (nN [(3,.lt2 0 1 0 1),qE v.n,qE v.a.c] (ze8 y0 v v.a (znao7 y0 v.m (nN (znao3 (qE v.x.n::znao8 v.a [qE v.n,qE v.a.c,qE y0.lk,qE y0.lc,qE y0.lo,qE y0.ln])) (ze8 y0 v v.a (nN (qE v.now::znao9 v.x v.a [qE v.n,qE v.b.c]) (znao10 y1 y0 (nN (qE v.now::qE v.x.n::znao12 v.b []) (znao4 v v.b y1 y0 (nN (znao9 v.x v.b (qL v.x.n::znao0 v.x [qL v.x.n])) (znao1 v.x v y0 (U True V.ok)))))))))))))))))))))
abbrev znao2 (a0:Mm) (a1:Ev) (k:Mm->V):V:=nN [qX (a0.acc a1.n (O 6) (O 0) (u64.wrap (a0.val a1.n (O 0)+O 1)))] (V.any Mm (fun (m':Mm)=>m'=a0.acc a1.n (O 6) (O 0) (u64.wrap (a0.val a1.n (O 0)+O 1))) fun v0=>k v0)
abbrev znao5 (l:LP):LP:=(1,.le 0 0)::(1,.pf (∀ (i:Nat),i < 0->0<=0) (by intros; exact Z _))::l
abbrev znao11 (a0:Rk) (k:V):V:=U (∀ (i:Nat),i < 0->0<=a0.n) (nN [(1,.le 0 1),(1,.pf (∀ (i:Nat),i < 0->0<=0) (by intros; exact Z _))] k)
abbrev znao14 (l:LP):LP:=(1,.eqI 0 0)::(1,.eqI 1 1)::l
abbrev znao15 (a0:Mm) (a1:Ev) (k:Mm->V):V:=znao2 a0 a1 fun v0=>U (decide (i64.wrap (a0.val a1.n (O 0)) >= O 0)=true) (k v0)
theorem vAo_eq (c:Cf) (v:Ev) (cf:Nat):V.pr (.b (.b (.t (.f (.f .z))) (.t (.t (.b (.f (.t .z)) (.f .z))))) (.f (.f .z))) (vAo c v cf)=
 nN [(16,.lt2 0 1 0 1),qE v.n,qE v.a.c] (ze8 v.m v v.a (nN ((16,.lt2 0 1 0 1)::znao14 [qE v.n,qE v.a.c,qE v.m.lk,qE v.m.lc,qE v.m.lo,qE v.m.ln,qE v.m.ct,qE v.a.c,qL v.n,qF v.n v.m.g]) (znao2 v.m v fun y0=>V.br (decide (i64.wrap (v.m.val v.n (O 0)) >= O 0)) (nN [(4,.lt2 0 1 0 1)] (V.br (!decide (i64.wrap (v.m.val v.n (O 0)) < c.T)) (nN ((7,.lt2 0 1 0 1)::(3,.lt 0 1)::(7,.lt2 0 1 0 1)::(6,.lt 0 1)::znao14 ((1,.eqI 0 0)::qE c.W::qE c.L::qE c.C::qE c.T::qE c.D::qE c.H::qE c.B::qE c.A::qE c.P::qE c.nP::qE c.rc::qE c.nU::qE c.cu::qE v.n::qE v.b.c::qE v.m.lk::qE v.m.lc::qE v.m.lo::qE v.m.ln::qE v.m.ct::qE v.now::qE v.dr::qE v.x.n::znao8 v.b (qE v.b.c::qL v.n::qF v.n v.m.g::znao5 (znao5 [(1,.le 0 1)])))) (znao11 v.x (znao15 v.m v fun y1=>U (decide (i64.wrap (v.m.val v.n (O 0)) < c.T)=false) (znaos0 cf v y0 y1)))) (nN ((7,.lt2 0 1 0 1)::(3,.lt 0 1)::(7,.lt2 0 1 0 1)::(6,.lt 0 1)::znao14 ((1,.eqI 0 0)::qE c.W::qE c.L::qE c.C::qE c.T::qE c.D::qE c.H::qE c.B::qE c.A::qE c.P::qE c.nP::qE c.rc::qE c.nU::qE c.cu::qE v.n::qE v.b.c::qE v.m.lk::qE v.m.lc::qE v.m.lo::qE v.m.ln::qE v.m.ct::qE v.now::qE v.dr::qE v.x.n::znao8 v.b (qE v.b.c::qL v.n::qF v.n v.m.g::znao5 (znao5 [(1,.le 0 1)])))) (znao11 v.x (znao15 v.m v fun y1=>U (decide (i64.wrap (v.m.val v.n (O 0)) < c.T)=true) (V.br (decide (i64.wrap (v.m.val v.n (O 0)) < (↑v.x.n:Int))) (nN [(6,.lt2 0 1 0 1)] (znao6 cf (nN (znao3 (qE v.x.n::znao8 v.a [qE v.n,qE v.a.c,qE y0.lk,qE y0.lc,qE y0.lo,qE y0.ln])) (ze8 y0 v v.a (nN (qE v.now::znao9 v.x v.a [qE v.n,qE v.b.c]) (znao10 y1 y0 (nN (qE v.now::qE v.x.n::znao12 v.b []) (znao4 v v.b y1 y0 (nN (znao9 v.x v.b (qL v.x.n::znao0 v.x [qL v.x.n])) (znao1 v.x v y0 (nN [(3,.lt2 0 1 0 1),qE v.n,qE v.a.c] (ze8 y0 v v.a (znao7 y0 v.m (U ((i64.wrap (v.m.val v.n (O 0)) == i64.wrap (v.m.val v.n (O 0)))=true) (nN (znao3 (qE v.x.n::znao8 v.a [qE v.n,qE v.a.c,qE y0.lk,qE y0.lc,qE y0.lo,qE y0.ln])) (ze8 y0 v v.a (nN (qE v.now::znao9 v.x v.a [qE v.n,qE v.b.c]) (znao10 y1 y0 (nN (qE v.now::qE v.x.n::znao12 v.b []) (znao4 v v.b y1 y0 (nN (znao9 v.x v.b (qL v.x.n::znao0 v.x [qL v.x.n])) (znao1 v.x v y0 (U True V.ok))))))))))))))))))))))) (nN [(6,.lt2 0 1 0 1)] (znao6 cf (nN (znao3 (qE v.x.n::znao8 v.a [qE v.n,qE v.a.c,qE y0.lk,qE y0.lc,qE y0.lo,qE y0.ln])) (ze8 y0 v v.a (nN (qE v.now::znao9 v.x v.a [qE v.n,qE v.b.c]) (znao10 y1 y0 (nN (qE v.now::qE v.x.n::znao12 v.b []) (znao4 v v.b y1 y0 (nN (znao9 v.x v.b (qL v.x.n::znao0 v.x [qL v.x.n])) (znao1 v.x v y0 (nN [(3,.lt2 0 1 0 1),qE v.n,qE v.a.c] (ze8 y0 v v.a (znao7 y0 v.m (U True (U (false=true) V.ok))))))))))))))))))))) (nN ((7,.lt2 0 1 0 1)::(3,.lt 0 1)::(7,.lt2 0 1 0 1)::(6,.lt 0 1)::znao14 ((1,.eqI 0 0)::qE c.W::qE c.L::qE c.C::qE c.T::qE c.D::qE c.H::qE c.B::qE c.A::qE c.P::qE c.nP::qE c.rc::qE c.nU::qE c.cu::qE v.n::qE v.b.c::qE v.m.lk::qE v.m.lc::qE v.m.lo::qE v.m.ln::qE v.m.ct::qE v.now::qE v.dr::qE v.x.n::znao8 v.b (qE v.b.c::qL v.n::qF v.n v.m.g::znao5 (znao5 [(1,.le 0 1)])))) (znao11 v.x (znao2 v.m v fun y1=>U (decide (i64.wrap (v.m.val v.n (O 0)) >= O 0)=false) (znaos0 cf v y0 y1))))))):=by kernel_rfl
end Go.Proofs.YtmdcgjccknhmoaaGreat.En
/- Allocate of the table: the conditions hold; the contract of Match. -/
namespace Go.Proofs.YtmdcgjccknhmoaaGreat.En
open Go Go.RowKit Sx Cn Dc Ck Vc Md
theorem q_tn2 {c:Cf} {v:Ev} {t:Int} (h:okMq c v) (h1:(!decide (t < c.T))=false) (h2:decide (t < (v.x.n:Int))=false):False:=q_tn h h1 (by rw [h2]; rfl)
theorem vhAo {c:Cf} {v:Ev} {cf:Nat} (h:okMq c v):zae (vAo c v cf):=by
 refine zae.pr (vAo_eq ..) ?_
 (with_reducible repeat' first | exact V.okI | refine V.brT ?_ | refine V.brF ?_ | refine V.brI ?_ ?_ | refine V.anyI ?_ | refine nN_h rfl ?_ | refine V.needI ?_ ?_ | intro _)
 all_goals first
  | assumption
  | exact True.intro
  | exact Nat.zero_le _
  | exact q_cm ‹_›
  | exact q_ka ‹_›
  | exact q_kb ‹_›
  | exact ⟨Z _,by assumption⟩
  | exact ⟨Nat.zero_le _,Nat.zero_le _⟩
  | exact ⟨Z _,rfl⟩
  | exact ⟨by decide,by decide,Int.natCast_nonneg _⟩
  | exact q_ctv ‹_› ‹_›
  | (exfalso; exact q_tn ‹_› (by with_reducible assumption) (by with_reducible assumption))
  | (exfalso; exact q_tn2 ‹_› (by with_reducible assumption) (by with_reducible assumption))
  | exact q_nt (by with_reducible assumption)
  | exact q_nf (by with_reducible assumption)
  | exact beq_self_eq_true _
  | exact (beq_self_eq_true _).symm
  | (subst_vars; rfl)
  | decide
  | trace_state
theorem nAo {c:Cf} {v:Ev} {cf:Nat}:zah P fMt (argM0 aoX 5) (hAo c v cf) 17 (yesO 17 (okMq c v)):=zaj conAo_ok fun h=>vhAo h
theorem cAo_ok:zab P fMt cAo:=zac fun args H=>by
 unfold cAo
 simp only [fN_eq]
 repeat' split
 all_goals first
  | exact .inl ⟨_,rfl⟩
  | with_reducible exact .inr ⟨_,_,_,_,_,rfl,nAo⟩
end Go.Proofs.YtmdcgjccknhmoaaGreat.En
