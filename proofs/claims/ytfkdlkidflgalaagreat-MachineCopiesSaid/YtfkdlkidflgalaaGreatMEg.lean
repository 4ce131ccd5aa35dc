import Derived.Test.YtfkdlkidflgalaaGreatMEgC
set_option maxHeartbeats 64000000
set_option linter.unusedVariables false
set_option linter.unusedSimpArgs false
set_option maxRecDepth 100000
open Go.IntKind (i64 u64)
open Int renaming ofNat -> O, ofNat_eq_natCast -> zz, natCast_nonneg -> zp
open Nat renaming le_refl -> Z, zero_le -> zf, zero_add -> z7, le_trans -> zl
open Bool renaming and_eq_true -> zx, not_eq_true' -> z8, not_eq_false' -> zb, or_eq_true -> zg, not_eq_true -> zi, and_eq_false_iff -> ze
open Go.Proofs.YtfkdlkidflgalaaGreat.Sx.V renaming need -> U, br -> zj, ok -> zu, any -> zd, needI -> z9, okI -> zk, brT -> zo, brF -> zn, brI -> zm, anyI -> zh
namespace Go.Proofs.YtfkdlkidflgalaaGreat.En
open Go Go.RowKit Sx Cn Dc Ck Vc Md
theorem ex_min {Q:Nat->Prop} (h:∃ n,Q n):∃ n,Q n/\∀ k,Q k->n<=k:=by
 obtain ⟨n,hn⟩:=h
 induction n using Nat.strongRecOn with
 | _ n ih=>
  by_cases g:∃ k,k < n/\Q k
  ·obtain ⟨k,hk,hq⟩:=g
   exact ih k hk hq
  ·exact ⟨n,hn,fun k hk=>Nat.le_of_not_lt fun h=>g ⟨k,h,hk⟩⟩
def preTs (c:Cf) (p:Ep) (s:Es) (m:Mp):Prop:=∃ b,preS b c p s m
def ΦTs (c:Cf) (p:Ep) (s:Es) (m:Mp) (x:So):Prop:=∀ b,preS b c p s m->ΦS b c p s m x
theorem vhTs {c:Cf} {p:Ep} {s:Es} {m:Mp} (h:preTs c p s m):zae (vSt c p s m (I1 (Classical.epsilon fun n=>preS n c p s m/\∀ k,preS k c p s m->n<=k) c p s) (I2 (Classical.epsilon fun n=>preS n c p s m/\∀ k,preS k c p s m->n<=k) c p s) (ΦTs c p s m)):=by
 have hb:=Classical.epsilon_spec (ex_min h)
 exact vhSt hb.1 fun x hx b' hb'=>hx.up (hb.2 b' hb')
noncomputable section
def rdMpK (k:Nat) (h:HL):Option Mp:=match (find k h).map ownC with
 | some [some q,some b,some x,some y]=>match szC q,blC b,numC x,numC y with
  | some (n,fc),some b,some x,some y=>some ⟨n,fc,b,x,y⟩
  | _,_,_,_=>none
 | _=>none
def cSt:List SV->Hp->Out (SV×Hp):=fun args H=>match args with
 | [.c (.ptr km _ _ _ _),.c (.ptr ke _ _ _ _)]=>fN km fun km=>fN ke fun ke=>fN (scK (zav km 0 H.h)) fun kf=>match rdEp ke kf H.h,rdMpK km H.h with
  | some (c,p,s,σ),some m=>useP (σ++[km]) 11 argSt (s.hS c p m 7 6 9 8++hCk c) (.need (preTs c p s m) (.any So (ΦTs c p s m) fun x=>.leaf (.c (.bv x.b),⟨x.s.hS c p x.m 11 12 13 14,15,fun _=>True⟩))) args H
  | _,_=>.bad 488
 | _=>.bad 489
theorem cSt_ok:zab P gStep cSt:=zac fun args H=>by
 unfold cSt
 simp only [fN_eq]
 repeat' split
 all_goals first
  | exact .inl ⟨_,rfl⟩
  | exact .inr ⟨_,_,_,_,_,rfl,zad conSt_ok fun h=>vhTs h⟩
def drC (r:Int):Nat->Nat->Out (SV×Hp)
 | 0,j=>.leaf (.c (i6 (O j)),⟨[],0,fun _=>True⟩)
 | i+1,j=>.br (r == O j) (.leaf (.c (i6 (O j)),⟨[],0,fun _=>True⟩)) (drC r i (j+1))
theorem drC_h {r:Int} {K:SV×Hp->Prop}:∀ (i j:Nat),(j:Int)<=r->r<=(j+i:Nat)->(drC r i j).holds K->(Out.leaf (.c (i6 r),⟨[],0,fun _=>True⟩)).holds K
 | 0,j,h1,h2,h=>by
  obtain rfl:r=O j:=by simp only [zz]; omega
  exact h
 | i+1,j,h1,h2,h=>by
  unfold drC at h
  by_cases e:r=O j
  ·subst e
   exact h.1 (by simp)
  ·refine drC_h i (j+1) ?_ ?_ (h.2 (by simpa using e))
   ·simp only [zz] at e
    omega
   ·omega
def cDk:List SV->Hp->Out (SV×Hp):=fun args H=>match args with
 | [.c a,.c n]=>match numC a,numC n with
  | some a,some n=>useP [] 0 [iv a,iv n] [] (.need (1<=n/\n<=9223372036854775807) (.any Int (fun r=>0<=r/\r < n) fun r=>drC r (n.toNat - 1) 0)) args H
  | _,_=>.bad 484
 | _=>.bad 485
theorem cDk_ok:zab P fDr cDk:=zac fun args H=>by
 unfold cDk
 repeat' split
 all_goals first | exact .inl ⟨_,rfl⟩ | exact .inr ⟨_,_,_,_,_,rfl,(zad zak.nil fun h=>vhDr h).mono fun K hK=>by
  obtain ⟨⟨h1,h2⟩,-,h3⟩:=hK
  refine ⟨h2,⟨_,rfl⟩,fun r e=>?_⟩
  subst e
  obtain ⟨g1,g2⟩:=dr_bd (a:=_) h1
  exact drC_h _ 0 g1 (by omega) (h3 _ ⟨g1,g2⟩)⟩
end
structure Ma where
 f:Fk
 m:Mp
structure M5 where
 a0:Ma
 a1:Ma
 a2:Ma
 a3:Ma
 a4:Ma
structure Ee where
 m:Mm
 now:Int
 dr:Int
 x:Rk
 kc:Nat->Nat
 ne:Nat
 nc:Nat
 en:Int
 ns:Nat
 cs:Nat
 l0:Int
 l1:Int
 l2:Int
 l3:Int
end Go.Proofs.YtfkdlkidflgalaaGreat.En
namespace Go.Proofs.YtfkdlkidflgalaaGreat.Sx
open En
def at5 (x:M5):Nat->Ma
 | 0=>x.a0
 | 1=>x.a1
 | 2=>x.a2
 | 3=>x.a3
 | _=>x.a4
def set5 (x:M5) (a:Ma):Nat->M5
 | 0=>⟨a,x.a1,x.a2,x.a3,x.a4⟩
 | 1=>⟨x.a0,a,x.a2,x.a3,x.a4⟩
 | 2=>⟨x.a0,x.a1,a,x.a3,x.a4⟩
 | 3=>⟨x.a0,x.a1,x.a2,a,x.a4⟩
 | _=>⟨x.a0,x.a1,x.a2,x.a3,a⟩
end Go.Proofs.YtfkdlkidflgalaaGreat.Sx
namespace Go.Proofs.YtfkdlkidflgalaaGreat.En
open Go Go.RowKit Sx Cn Dc Ck Vc Md
def Ee.es (e:Ee) (f:Fk):Es:=⟨e.m,e.now,e.dr,e.x,e.kc,e.ne,e.nc,f⟩
noncomputable section
def Ee.rv (e:Ee) (c:Cf) (p:Ep):Rv:=⟨c,p.n,p.cap,e.m,e.now,e.dr,e.x.n,p.rc,e.ne,e.nc⟩
def Ee.eng (e:Ee) (ke km k cm ks:Nat):Blk:=.own tEn 8 ([.ptr ke (.k 0) (.k 0) 0 21,slK km 1 k cm,i6 e.en,slK ks 1 e.ns e.cs,i6 e.l0,i6 e.l1,uw e.l2,uw e.l3].map some)
def Ma.hl (a:Ma) (km kf kl:Nat):HL:=[(km,a.m.b kf),(kf,a.f.row kl a.m.n a.m.fc),(kl,a.f.fam a.m.n)]
def hMs (x:M5) (fk:Nat->Nat):Nat->Nat->HL
 | 0,_=>[]
 | i+1,j=>(at5 x j).hl (11+3 * j) (fk j) (fk j+1)++hMs x fk i (j+1)
def ptM:Nat->Nat->List SC
 | 0,_=>[]
 | i+1,j=>.ptr (11+3 * j) (.k 0) (.k 0) 0 4::ptM i (j+1)
def mV (k:Nat):Blk:=.view 1 (fun _=>k) [.ck (ptM k 0)]
def Ee.hD (e:Ee) (c:Cf) (p:Ep) (cm:Nat) (x:M5) (k ke kk ks:Nat) (fk:Nat->Nat):HL:=[(0,(e.rv c p).b 1 2 4 5 ke),(4,wRow p.cap p.n e.m),(5,e.x.row kk e.kc p.rc),(kk,e.x.fam e.x.n e.kc),(ke,evU e.ne e.nc),(8,e.eng 0 9 k cm ks),(ks,.row 3 e.cs e.ns [.cu])]++hMs x fk k 0
def fk0 (j:Nat):Nat:=12+3 * j
def fk1 (n j:Nat):Nat:=n+2 * j
def frK (j:Nat) (s:St):Nat:=scK (zav (11+3 * j) 0 s.H.h)
def lsK (j:Nat) (s:St):Nat:=match rdFk (frK j s) s.H.h with
 | some (_,k)=>k
 | none=>0
def rdEe (h:HL):Option Ee:=match rdRv 0 h,(find 8 h).map ownC with
 | some (r,[_,_,_,_,k5,_]),some [_,_,some en,some st,some l0,some l1,some l2,some l3]=>match rdRk k5 r.rn h,numC en,szC st,numC l0,numC l1,numC l2,numC l3 with
  | some (x,_,kc),some en,some (ns,cs),some l0,some l1,some l2,some l3=>some ⟨r.m,r.now,r.dr,x,kc,r.ne,r.nc,en,ns,cs,l0,l1,l2,l3⟩
  | _,_,_,_,_,_,_=>none
 | _,_=>none
def rdMa (j:Nat) (h:HL):Option Ma:=match rdMpK (11+3 * j) h,rdFk (scK (zav (11+3 * j) 0 h)) h with
 | some m,some (f,_)=>some ⟨f,m⟩
 | _,_=>none
def rdM5 (d:M5) (h:HL):Nat->Nat->Option M5
 | 0,_=>some d
 | i+1,j=>match rdMa j h,rdM5 d h i (j+1) with
  | some a,some x=>some (set5 x a j)
  | _,_=>none
def pthM:Nat->Nat->List ((St->Nat)×Bool)
 | 0,_=>[]
 | i+1,j=>(fun _=>11+3 * j,true)::(frK j,false)::(lsK j,false)::pthM i (j+1)
def blkM (x:M5) (s:St):Nat->Nat->List Blk
 | 0,_=>[]
 | i+1,j=>(at5 x j).m.b (frK j s)::(at5 x j).f.row (lsK j s) (at5 x j).m.n (at5 x j).m.fc::(at5 x j).f.fam (at5 x j).m.n::blkM x s i (j+1)
def stK (s:St):Nat:=scK (zav 8 3 s.H.h)
structure Xd where
 e:Ee
 x:M5
def rdXd (d:M5) (k:Nat) (s:St):Option Xd:=match rdEe s.H.h,rdM5 d s.H.h k 0 with
 | some e,some x=>some ⟨e,x⟩
 | _,_=>none
def laD1 (c:Cf) (p:Ep) (cm:Nat) (d:M5) (k:Nat) (I:Xd->Prop) (s:St):Option (LA Xd):=fN (renK 0 s) fun ke=>fN (kidN s) fun kk=>fN (stK s) fun ks=>
 some ⟨[(fun _=>0,true),(fun _=>4,true),(fun _=>5,true),(kidN,false),(renK 0,false),(fun _=>8,true),(stK,false)]++pthM k 0,
  fun y=>[(y.e.rv c p).b 1 2 4 5 ke,wRow p.cap p.n y.e.m,y.e.x.row kk y.e.kc p.rc,y.e.x.fam y.e.x.n y.e.kc,evU y.e.ne y.e.nc,y.e.eng 0 9 k cm ks,.row 3 y.e.cs y.e.ns [.cu]]++blkM y.x s k 0,[],fun _=>[],rdXd d k,I,fun _=>0⟩
def rdSt (s:St):Option (Nat×Nat):=match (find 8 s.H.h).map ownC with
 | some [_,_,_,some st,_,_,_,_]=>szC st
 | _=>none
def laD2 (I:Nat->Nat×Nat->Prop) (s:St):Option (LA (Nat×Nat)):=fN (stK s) fun ks=>match find 8 s.H.h,rdEe s.H.h with
 | some (.own t sz cs),some e=>some ⟨[(fun _=>8,true),(stK,false)],fun q=>[.own t sz (cs.set 3 (some (slK ks 1 q.1 q.2))),.row 3 q.2 q.1 [.cu]],[],fun _=>[],rdSt,I e.ne,fun q=>e.ne - q.1⟩
 | _,_=>none
def fDo:FuncId:=45
def conDo:Con:=Con.add gStep cSt (Con.add fDr cDk con0)
theorem zgj:zak P conDo:=.add cSt_ok (.add cDk_ok zak.nil)
def argDo (a v:Int):List SV:=[.c (.ptr 8 (.k 0) (.k 0) 0 8),.a [i6 a,i6 v]]
def gsM:Nat->Nat->List (Nat×G)
 | 0,_=>[]
 | i+1,j=>(0,.ren (lsK j))::(0,.ren (frK j))::gsM i (j+1)
def LSm (H:Hp):Nat->Nat->List Nat
 | 0,_=>[]
 | i+1,j=>fN (scK (zav (11+3 * j) 0 H.h)) fun kf=>(match rdFk kf H.h with
  | some (_,k)=>kf::k::LSm H i (j+1)
  | none=>[])
structure Xe where
 e:Ee
 x:M5
def rdXe (d:M5) (k:Nat) (s:SV) (H:Hp):Option Xe:=match rdEe H.h,rdM5 d H.h k 0 with
 | some e,some x=>some ⟨e,x⟩
 | _,_=>none
def LSe (k:Nat) (_:SV) (H:Hp):List Nat:=match kidK 5 H.h with
 | some (kk,_)=>scK (zav 0 20 H.h)::kk::scK (zav 8 3 H.h)::LSm H k 0
 | none=>[]
def vDo (c:Cf) (p:Ep) (cm:Nat) (e:Ee) (x:M5) (k:Nat) (a v:Int) (I1:Xd->Prop) (I2:Nat->Nat×Nat->Prop) (Φ:Xe->Prop):V:=verF P conDo 8 10 fDo ((0,.ren (renK 0))::(0,.ren kidN)::(0,.ren stK)::gsM k 0)
 (.cut 2009 Xd (laD1 c p cm x k I1) .nil (.loop (Nat×Nat) [] (laD2 I2) .nil .nil)) (argDo a v) ⟨e.hD c p cm x k 7 6 10 fk0++(9,mV k)::hCk c,11+3 * k,fun _=>True⟩
 (finV (X:=Xe) (11+3 * k) (14+5 * k) (rdXe x k) (LSe k) Φ (fun _=>.t []) (fun y=>y.e.hD c p cm y.x k (11+3 * k) (12+3 * k) (13+3 * k) (fk1 (14+3 * k))))
end
structure okEe (b:Nat) (c:Cf) (e:Ee):Prop where
 m:okW e.m
 n:e.x.n=c.T.toNat
 kl:∀ i,e.x.kl i<=b
 kc:∀ i,i < e.x.n->e.x.kl i<=e.kc i
 ne:e.ne<=b
 nc:e.ne<=e.nc
 st:e.ns<=e.cs
 t0:0<=e.now
 t1:e.now<=(b:Int)
structure okMa (b:Nat) (c:Cf) (a:Ma):Prop where
 ll:∀ e,a.f.ll e<=b
 lc:∀ e,e < a.m.n->a.f.ll e<=a.f.lc e
 u:∀ e,wd (a.f.u e)
 v:∀ e,wd (a.f.v e)
 w:∀ e,wd (a.f.w e)
 x:∀ e,wd (a.f.x e)
 q:∀ e,a.f.qc e<=9223372036854775807
 j:a.m.over=false->(∀ s:Es,s.f=a.f->J c s a.m.n/\Tp c s (a.m.n - 1))/\a.m.n<=a.m.fc
def okMs (b:Nat) (c:Cf) (k:Nat) (x:M5):Prop:=∀ j,j < k->okMa b c (at5 x j)
structure preD (b:Nat) (c:Cf) (k:Nat) (e:Ee) (x:M5):Prop where
 hY:okY c
 hC:okC c
 hU:c.nU<=900000
 hb:1<=b/\b+24<=900000
 he:okEe b c e
 hM:okMs b c k x
def ΦD (b:Nat) (c:Cf) (k:Nat) (e:Ee) (x:M5):Prop:=okEe (b+24) c e/\okMs (b+24) c k x
section
variable {b b':Nat} {c:Cf} {p:Ep} {e:Ee} {a:Ma} {x:M5} {k:Nat} {y:So}
theorem okEe.le (h:okEe b c e) (hb:b<=b'):okEe b' c e:=⟨h.m,h.n,fun i=>zl (h.kl i) hb,h.kc,zl h.ne hb,h.nc,h.st,h.t0,by have:=h.t1; omega⟩
theorem okMa.le (h:okMa b c a) (hb:b<=b'):okMa b' c a:=⟨fun e=>zl (h.ll e) hb,h.lc,h.u,h.v,h.w,h.x,h.q,h.j⟩
theorem okMs.le (h:okMs b c k x) (hb:b<=b'):okMs b' c k x:=fun j hj=>(h j hj).le hb
theorem okEe.E (h:okEe b c e) (ha:okMa b c a):okE b c (p.to a.m) (e.es a.f):=⟨h.m,h.n,h.kl,h.kc,h.ne,h.nc,ha.ll,ha.lc,ha.u,ha.v,ha.w,ha.x,ha.q⟩
theorem okEe.ka (h:okEe b c e) (i:Nat):upto e.x.n e.x.kl i<=e.kc i/\upto e.x.n e.x.kl i<=upto e.x.n e.x.kl i:=up_d (Z _) h.kc i
theorem okMa.la (h:okMa b c a) (i:Nat):upto a.m.n a.f.ll i<=a.f.lc i/\upto a.m.n a.f.ll i<=upto a.m.n a.f.ll i:=up_d (Z _) h.lc i
theorem at_set (x:M5) (a:Ma) {j i:Nat} (hj:j<=4) (hi:i<=4):at5 (set5 x a j) i=if i=j then a else at5 x i:=by
 have h1:j=0\/j=1\/j=2\/j=3\/j=4:=by omega
 have h2:i=0\/i=1\/i=2\/i=3\/i=4:=by omega
 rcases h1 with rfl | rfl | rfl | rfl | rfl<;>rcases h2 with rfl | rfl | rfl | rfl | rfl<;>rfl
theorem okMs.set (h:okMs b c k x) (hb:b<=b') (ha:okMa b' c a) (hk:k<=5) (j:Nat) (hj:j<=4):okMs b' c k (set5 x a j):=fun i hi=>by
 rw [at_set x a hj (by omega)]
 split
 ·exact ha
 ·exact (h i hi).le hb
theorem J.of_f {s s':Es} {n:Nat} (h:J c s n) (h12:2<=n->s.f.kd (n - 1)≠12) (hf:s'.f=s.f):J c s' n:=by
 refine ⟨h.n1,fun e he=>by rw [hf]; exact h.ch e he,fun e he h4=>?_,fun e he h6=>by rw [hf] at h6 ⊢; exact h.bc e he h6⟩
 rw [hf] at h4 ⊢
 obtain ⟨h1,h2,h3,h5⟩:=h.bw e he h4
 refine ⟨h1,h2,h3,fun g=>?_⟩
 have h7:=(h5 g).2
 have:e+1=n - 1:=by
  rcases Nat.lt_or_ge (e+2) n with g | g
  ·have h8:=h.ch (e+1) g
   have h9:=rk_pos (s.f.kd (e+1+1))
   rw [h7] at h8
   have:rk 12=1:=by decide
   omega
  ·omega
 rw [this] at h7
 exact absurd h7 (h12 (by omega))
theorem Tp.of_f {s s':Es} {n:Nat} (h:Tp c s n) (hf:s'.f=s.f):Tp c s' n:=⟨by rw [hf]; exact h.hw,by rw [hf]; exact h.hc⟩
theorem pre_of (hp:preD b c k e x) (ha:okMa b c a) {q:Ep}:preS b c q (e.es a.f) a.m:=⟨hp.hY,hp.hC,hp.hU,hp.hb,hp.he.E ha,fun h=>⟨((ha.j h).1 _ rfl).1,((ha.j h).1 _ rfl).2,(ha.j h).2⟩⟩
theorem pre_ts (hp:preD b c k e x) (ha:okMa b c a) {q:Ep}:preTs c q (e.es a.f) a.m:=⟨b,pre_of hp ha⟩
theorem exTs {q:Ep} {s:Es} {m:Mp}:∃ y,ΦTs c q s m y:=by
 refine ⟨⟨s,⟨m.n,m.fc,true,m.code,m.value⟩,true⟩,fun b hb=>⟨fun h=>⟨rfl,?_,rfl⟩,hb.hs.le (by omega),rfl,fun _=>rfl,fun h=>(by cases h)⟩⟩
 rw [<- h]
theorem stp (hp:preD b c k e x) (ha:okMa b c a) {q:Ep} (hy:ΦTs c q (e.es a.f) a.m y):okEe (b+24) c ⟨y.s.m,y.s.now,y.s.dr,y.s.x,y.s.kc,y.s.ne,y.s.nc,e.en,e.ns,e.cs,e.l0,e.l1,e.l2,e.l3⟩/\okMa (b+24) c ⟨y.s.f,y.m⟩:=by
 have h:=hy b (pre_of hp ha)
 have hs:=h.hs
 have hn:y.s.now=e.now:=h.hn
 have t0:=hp.he.t0
 have t1:=hp.he.t1
 refine ⟨⟨hs.m,hs.n,hs.kl,hs.kc,hs.ne,hs.nc,hp.he.st,?_,?_⟩,hs.ll,hs.lc,hs.u,hs.v,hs.w,hs.x,hs.q,fun ho=>?_⟩
 ·show 0<=y.s.now
  omega
 ·show y.s.now<=((b+24:Nat):Int)
  omega
 ·have hb:y.b=false:=by
   cases hb:y.b with
   | false=>rfl
   | true=>
    have:=h.ho hb
    rw [show y.m.over=false from ho] at this
    cases this
  obtain ⟨h1,h2,h3,h4,h5⟩:=h.hj hb
  exact ⟨fun s hs=>⟨h2.of_f h5 hs,h3.of_f hs⟩,h4⟩
theorem stp_e (hp:preD b c k e x) (ha:okMa b c a) {q:Ep} (hy:ΦTs c q (e.es a.f) a.m y):(∀ i,i < y.s.x.n->y.s.x.kl i<=y.s.kc i)/\∀ i,i < y.m.n->y.s.f.ll i<=y.s.f.lc i:=⟨(stp hp ha hy).1.kc,(stp hp ha hy).2.lc⟩
theorem D_step (hp:preD b c k e x) (hk:k<=5) {j:Nat} (hj:j < k) {q:Ep} (hy:ΦTs c q (e.es (at5 x j).f) (at5 x j).m y):ΦD b c k ⟨y.s.m,y.s.now,y.s.dr,y.s.x,y.s.kc,y.s.ne,y.s.nc,e.en,e.ns,e.cs,e.l0,e.l1,e.l2,e.l3⟩ (set5 x ⟨y.s.f,y.m⟩ j):=
 ⟨(stp hp (hp.hM j hj) hy).1,hp.hM.set (by omega) (stp hp (hp.hM j hj) hy).2 hk j (by omega)⟩
theorem D_tick (hp:preD b c k e x):ΦD b c k ⟨e.m,i64.wrap (e.now+O 1),e.dr,e.x,e.kc,e.ne,e.nc,e.en,e.ns,e.cs,e.l0,e.l1,e.l2,e.l3⟩ x:=by
 have t0:=hp.he.t0
 have t1:=hp.he.t1
 have hb:=hp.hb
 have h:=hp.he.le (b':=b+24) (by omega)
 have e1:i64.wrap (e.now+O 1)=e.now+1:=w64 (by simp only [zz]; omega)
 refine ⟨⟨h.m,h.n,h.kl,h.kc,h.ne,h.nc,h.st,?_,?_⟩,hp.hM.le (by omega)⟩
 ·show 0<=i64.wrap _
  omega
 ·show i64.wrap _<=((b+24:Nat):Int)
  omega
theorem D_draw (hp:preD b c k e x) {v:Int}:ΦD b c k ⟨e.m,e.now,v,e.x,e.kc,e.ne,e.nc,e.en,e.ns,e.cs,e.l0,e.l1,e.l2,e.l3⟩ x:=by
 have h:=hp.he.le (b':=b+24) (by omega)
 exact ⟨⟨h.m,h.n,h.kl,h.kc,h.ne,h.nc,h.st,h.t0,h.t1⟩,hp.hM.le (by omega)⟩
theorem ΦD.same (hp:preD b c k e x):ΦD b c k e x:=⟨hp.he.le (by omega),hp.hM.le (by omega)⟩
theorem D_end (h:ΦD b c k e x) {q:Nat×Nat} (hq:q.1<=q.2) {x':M5} (hx:∀ j,j < k->at5 x' j=at5 x j) {en l0 l1 l2 l3:Int}:ΦD b c k ⟨e.m,e.now,e.dr,e.x,e.kc,e.ne,e.nc,en,q.1,q.2,l0,l1,l2,l3⟩ x':=⟨⟨h.1.m,h.1.n,h.1.kl,h.1.kc,h.1.ne,h.1.nc,hq,h.1.t0,h.1.t1⟩,fun j hj=>by rw [hx j hj]; exact h.2 j hj⟩
theorem D_mx (hp:b+24<=900000) (h:ΦD b c k e x) {n:Nat} (hn:decide ((n:Int) < (e.ne:Int))=true):n+1<=9223372036854775807/\(n+1) * 8<=140737488355328:=by
 have h1:=h.1.ne
 have h2:=of_decide_eq_true hn
 omega
theorem D_mu {n:Nat} (hn:decide ((n:Int) < (e.ne:Int))=true):e.ne - (n+1) < e.ne - n:=by
 have h2:=of_decide_eq_true hn
 omega
end
abbrev g81 (a0:Ee) (l:LP):LP:=qE a0.nc::qL a0.ne::l
abbrev g25 (a0:Mp) (a1:Fk) (k:V):V:=nN (g24 a0 []) (g23 a0 a1 k)
abbrev g82 (a0:Mp) (a1:Fk) (a2:Mp) (a3:Fk) (k:V):V:=g25 a0 a1 (g25 a2 a3 k)
abbrev g86 (a0:Ee) (l:LP):LP:=qE a0.en::qE a0.ns::qE a0.cs::l
abbrev g2 (a0:Ee) (a1:Rk) (k:V):V:=U (∀ (i:Nat),a0.kc i=a0.kc i\/a0.kc i=0) (U (∀ (i:Nat),upto a1.n a1.kl i<=a0.kc i/\upto a1.n a1.kl i<=upto a1.n a1.kl i) k)
abbrev g53 (a0:Rk) (a1:Ee) (l:LP):LP:=qF a0.n a1.kc::qF a0.n a0.st::l
abbrev g99 (a0:Rk) (a1:Ee) (k:V):V:=nN (g27 a0 (qF a0.n a0.wt::qF a0.n (fun (e_1:Nat)=>e_1)::qF a0.n a0.kl::g53 a0 a1 [])) (g2 a1 a0 (nN [(1,.pf (∀ (i e_1:Nat),e_1 < upto a0.n a0.kl i->a0.kd i e_1=a0.kd i e_1) (by intros; rfl))] k))
abbrev g100 (a0:Rk) (a1:Ep) (a2:Ee) (l:LP):LP:=g31 a0 a1 (qE a2.ne::qE a2.nc::l)
abbrev g38 (a0:Cf) (a1:Ep) (a2:Mp) (a3:Ee) (a4:Fk) (k:So->V):V:=U (preTs a0 (Ep.mk a1.n a1.cap a1.rc a2.n a2.fc) { a3 with f:=a4 } a2) (nA (ΦTs a0 (Ep.mk a1.n a1.cap a1.rc a2.n a2.fc) { a3 with f:=a4 } a2) fun v0=>k v0)
abbrev g110 (a0:Cf) (a1:Ep) (a2:Mp) (a3:Ee) (a4:Fk) (a5:Xd->Prop) (a6:M5) (k:So->V):V:=g38 a0 a1 a2 a3 a4 fun v0=>U (a5 (Xd.mk { v0.s with en:=a3.en,ns:=a3.ns,cs:=a3.cs,l0:=a3.l0,l1:=a3.l1,l2:=a3.l2,l3:=a3.l3 } { a6 with a0:=Ma.mk v0.s.f v0.m })) (k v0)
abbrev g111 (a0:Cf) (a1:Ep) (a2:Mp) (a3:Ee) (a4:Fk) (a5:Xd->Prop) (a6:M5) (k:So->V):V:=g38 a0 a1 a2 a3 a4 fun v0=>U (a5 (Xd.mk { v0.s with en:=a3.en,ns:=a3.ns,cs:=a3.cs,l0:=a3.l0,l1:=a3.l1,l2:=a3.l2,l3:=a3.l3 } { a6 with a1:=Ma.mk v0.s.f v0.m })) (k v0)
abbrev g101 (a0:Cf) (a1:Ep) (a2:Mm) (a3:Ee) (a4:Rk) (l:LP):LP:=g28 a0 a1 a2 (qE a3.now::qE a3.dr::g100 a4 a1 a3 (g83 a1 a2 l))
abbrev g125 (a0:Cf) (a1:Ep) (a2:Mm) (a3:Ee) (a4:Rk) (k:V):V:=nN (g101 a0 a1 a2 a3 a4 []) (g99 a4 a3 k)
abbrev g131 (a0:Ee) (a1:Nat×Nat) (l:LP):LP:=qE (i64.wrap (a0.en+O 1))::qE a1.fst::l
abbrev g87 (a0:Ee) (l:LP):LP:=qE a0.cs::qL a0.ns::l
abbrev g142 (a0:Ee) (a1:Mp) (a2:Fk) (a3:Mp) (a4:Fk) (k:V):V:=nN (g86 a0 (qE a0.l0::qE a0.l1::qE a0.l2::qE a0.l3::g87 a0 [])) (g82 a1 a2 a3 a4 k)
abbrev g168 (a0:Nat) (a1:Nat×Nat) (k:V):V:=nN [qE a0] (U (a1.fst+1<=a1.fst+1) k)
abbrev g170 (l:LP):LP:=qE true::(3,.lt2 0 1 0 1)::l
abbrev g175 (a0:Cf) (a1:Ep) (a2:Mm) (a3:Ee) (a4:Rk) (k:V):V:=nN (g101 a0 a1 a2 a3 a4 (g30 a4 (g53 a4 a3 []))) (g2 a3 a4 (nN ((1,.pf (∀ (i e:Nat),e < upto a4.n a4.kl i->a4.kd i e=a4.kd i e) (by intros; rfl))::g81 a3 []) k))
abbrev g191 (a0:Nat) (l:LP):LP:=(1,.eq 2 2)::qE a0::l
abbrev g198 (a0:Xd->Prop) (a1:Ee) (a2:M5) (a3:Cf) (a4:Ep) (a5:Mm) (k:V):V:=U (a0 (Xd.mk { a1 with now:=i64.wrap (a1.now+O 1) } a2)) (nN (g28 a3 a4 a5 []) k)
abbrev g228 (a0:Ee) (l:LP):LP:=qE (i64.wrap (a0.now+O 1))::qE a0.dr::l
abbrev g245 (a0:Cf) (a1:Ep) (a2:Mm) (a3:Es) (a4:Rk) (k:V):V:=g48 a0 a1 a2 a3 a4 (nN (g41 a3 []) k)
abbrev g266 (a0:Mp) (a1:Fk) (a2:Ee) (k:V):V:=g23 a0 a1 (nN (g81 a2 (g24 a0 [])) k)
abbrev g276 (a0:Xd->Prop) (a1:Ee) (a2:Int) (a3:M5) (k:V):V:=nN [(7,.lt2 0 1 0 1)] (U (a0 (Xd.mk { a1 with dr:=a2 } a3)) k)
abbrev g299 (a0:Ee) (a1:Nat×Nat) (l:LP):LP:=qE a0.en::qE (a1.fst+1)::l
abbrev g300 (a0:Nat×Nat) (l:LP):LP:=qE a0.snd::qL a0.fst::l
abbrev g301 (a0:Ee) (a1:Nat->Nat×Nat->Prop) (k:(Nat×Nat)->V):V:=nN (g87 a0 []) (zd (Nat×Nat) (a1 a0.ne) fun v0=>nN [(9,.lt2 0 1 0 1)] (k v0))
abbrev g305 (a0:Nat×Nat) (a1:Nat->Nat×Nat->Prop) (a2:Ee) (k:Nat->V):V:=nN [(7,.lt2 0 1 0 1)] (U (a0.fst<=a0.fst/\a0.snd=a0.snd) (U (a0.fst+1<=9223372036854775807/\(a0.fst+1) * 8<=140737488355328) (zd Nat (fun (x:Nat)=>a0.fst+1<=x) fun v0=>nN [(2,.lt2 0 1 0 1)] (U (a1 a2.ne (a0.fst+1,v0)) (U (a2.ne - (a0.fst+1) < a2.ne - a0.fst) (k v0))))))
theorem vDo2_eq (c:Cf) (p:Ep) (cm:Nat) (e:Ee) (x:M5) (a v:Int) (I1:Xd->Prop) (I2:Nat->Nat×Nat->Prop) (Φ:Xe->Prop):V.pr (.b (.b (.b (.t .z) (.f .z)) .z) .z) (vDo c p cm e x 2 a v I1 I2 Φ)=
 g125 c p e.m e e.x (nN (g81 e (g191 cm [])) (g142 e x.a0.m x.a0.f x.a1.m x.a1.f (zd Bool (fun (x:Bool)=>True) fun y0=>zj y0 (nN [(2,.lt2 0 1 0 1)] (zj (a == O 0) (nN [(8,.lt2 0 1 0 1),qE v,qE ((↑2:Int))] (U (O 1<=(↑2:Int)/\(↑2:Int)<=O 9223372036854775807) (nA (fun (r:Int)=>O 0<=r/\r < (↑2:Int)) fun y1=>zj (y1 == O 0) (U (O 0<=O 0/\O 0 < (↑2:Int)) (nN ((2,.lt2 0 1 0 2)::(1,.lt 0 2)::g170 []) (g125 c p e.m e e.x (g266 x.a0.m x.a0.f e (nN (g68 c []) (g110 c p x.a0.m e x.a0.f I1 x fun y2=>g245 c p y2.s.m y2.s y2.s.x (nN (g191 cm []) (g142 e y2.m y2.s.f x.a1.m x.a1.f zu)))))))) (U (O 0<=O 1/\O 1 < (↑2:Int)) (nN [(2,.lt2 0 1 1 2),(1,.lt 1 2),qE false,(3,.lt2 0 1 0 1)] (g125 c p e.m e e.x (g266 x.a1.m x.a1.f e (nN (g68 c []) (g111 c p x.a1.m e x.a1.f I1 x fun y2=>g245 c p y2.s.m y2.s y2.s.x (nN (g191 cm []) (g142 e x.a0.m x.a0.f y2.m y2.s.f zu))))))))))) (zj (a == O 1) (g198 I1 e x c p e.m (nN (g228 e (g100 e.x p e (g83 p e.m []))) (g99 e.x e (nN (g81 e (g191 cm [])) (g142 e x.a0.m x.a0.f x.a1.m x.a1.f zu))))) (zj (a == O 2) (g276 I1 e v x (nN (g28 c p e.m (qE e.now::qE v::g100 e.x p e (g83 p e.m []))) (g99 e.x e (nN (g81 e (g191 cm [])) (g142 e x.a0.m x.a0.f x.a1.m x.a1.f zu))))) (U (I1 (Xd.mk e x)) (g125 c p e.m e e.x (nN (g81 e (g191 cm [])) (g142 e x.a0.m x.a0.f x.a1.m x.a1.f zu)))))))) (zd Xd I1 fun y1=>zj (decide (y1.e.m.ct > e.m.ct)) (U (I2 y1.e.ne (y1.e.ns,y1.e.cs)) (nN (g191 cm (g86 y1.e (g11 y1.e.m []))) (g301 y1.e I2 fun y2=>zj (decide ((↑y2.fst:Int) < (↑y1.e.ne:Int))) (g305 y2 I2 y1.e fun y3=>nN (g191 cm (g299 y1.e y2 (qE y3::g11 y1.e.m []))) (g168 y3 y2 zu)) (U (Φ (Xe.mk { y1.e with en:=i64.wrap (y1.e.en+O 1),ns:=y2.fst,cs:=y2.snd,l0:=y1.e.m.lk,l1:=y1.e.m.lc,l2:=y1.e.m.lo,l3:=y1.e.m.ln } (M5.mk y1.x.a0 y1.x.a1 x.a2 x.a3 x.a4))) (g175 c p y1.e.m y1.e y1.e.x (nN (g191 cm (g131 y1.e y2 (qE y2.snd::g11 y1.e.m (g300 y2 [])))) (g82 y1.x.a0.m y1.x.a0.f y1.x.a1.m y1.x.a1.f zu))))))) (U (I2 y1.e.ne (y1.e.ns,y1.e.cs)) (nN (g191 cm (g86 y1.e [])) (g301 y1.e I2 fun y2=>zj (decide ((↑y2.fst:Int) < (↑y1.e.ne:Int))) (g305 y2 I2 y1.e fun y3=>nN (g191 cm (g299 y1.e y2 [qE y3])) (g168 y3 y2 zu)) (U (Φ (Xe.mk { y1.e with en:=i64.wrap (y1.e.en+O 1),ns:=y2.fst,cs:=y2.snd,l0:=O 0,l1:=O 0,l2:=O 0,l3:=O 0 } (M5.mk y1.x.a0 y1.x.a1 x.a2 x.a3 x.a4))) (g175 c p y1.e.m y1.e y1.e.x (nN (g191 cm (g131 y1.e y2 (qE y2.snd::(4,.eqI 0 0)::g300 y2 []))) (g82 y1.x.a0.m y1.x.a0.f y1.x.a1.m y1.x.a1.f zu))))))))))):=by kernel_rfl
abbrev g186 (a0:Nat) (l:LP):LP:=(1,.eq 3 3)::qE a0::l
abbrev g189 (a0:Cf) (a1:Ep) (a2:Mp) (a3:Ee) (a4:Fk) (a5:Xd->Prop) (a6:M5) (k:So->V):V:=g38 a0 a1 a2 a3 a4 fun v0=>U (a5 (Xd.mk { v0.s with en:=a3.en,ns:=a3.ns,cs:=a3.cs,l0:=a3.l0,l1:=a3.l1,l2:=a3.l2,l3:=a3.l3 } { a6 with a2:=Ma.mk v0.s.f v0.m })) (k v0)
abbrev g270 (l:LP):LP:=qE false::qE false::l
theorem vDo3_eq (c:Cf) (p:Ep) (cm:Nat) (e:Ee) (x:M5) (a v:Int) (I1:Xd->Prop) (I2:Nat->Nat×Nat->Prop) (Φ:Xe->Prop):V.pr (.b (.b (.b (.t .z) (.b (.f (.t .z)) (.f (.f .z)))) .z) .z) (vDo c p cm e x 3 a v I1 I2 Φ)=
 g125 c p e.m e e.x (nN (g81 e (g186 cm [])) (g142 e x.a0.m x.a0.f x.a1.m x.a1.f (g25 x.a2.m x.a2.f (zd Bool (fun (x:Bool)=>True) fun y0=>zj y0 (nN [(2,.lt2 0 1 0 1)] (zj (a == O 0) (nN [(8,.lt2 0 1 0 1),qE v,qE ((↑3:Int))] (U (O 1<=(↑3:Int)/\(↑3:Int)<=O 9223372036854775807) (nA (fun (r:Int)=>O 0<=r/\r < (↑3:Int)) fun y1=>zj (y1 == O 0) (U (O 0<=O 0/\O 0 < (↑3:Int)) (nN ((2,.lt2 0 1 0 3)::(1,.lt 0 3)::g170 []) (g125 c p e.m e e.x (g266 x.a0.m x.a0.f e (nN (g68 c []) (g110 c p x.a0.m e x.a0.f I1 x fun y2=>g245 c p y2.s.m y2.s y2.s.x (nN (g186 cm []) (g142 e y2.m y2.s.f x.a1.m x.a1.f (g25 x.a2.m x.a2.f zu))))))))) (zj (y1 == O 1) (U (O 0<=O 1/\O 1 < (↑3:Int)) (nN ((2,.lt2 0 1 1 3)::(1,.lt 1 3)::qE false::g170 []) (g125 c p e.m e e.x (g266 x.a1.m x.a1.f e (nN (g68 c []) (g111 c p x.a1.m e x.a1.f I1 x fun y2=>g245 c p y2.s.m y2.s y2.s.x (nN (g186 cm []) (g142 e x.a0.m x.a0.f y2.m y2.s.f (g25 x.a2.m x.a2.f zu))))))))) (U (O 0<=O 2/\O 2 < (↑3:Int)) (nN ((2,.lt2 0 1 2 3)::(1,.lt 2 3)::g270 [(3,.lt2 0 1 0 1)]) (g125 c p e.m e e.x (g266 x.a2.m x.a2.f e (nN (g68 c []) (g189 c p x.a2.m e x.a2.f I1 x fun y2=>g245 c p y2.s.m y2.s y2.s.x (nN (g186 cm []) (g142 e x.a0.m x.a0.f x.a1.m x.a1.f (g25 y2.m y2.s.f zu))))))))))))) (zj (a == O 1) (g198 I1 e x c p e.m (nN (g228 e (g100 e.x p e (g83 p e.m []))) (g99 e.x e (nN (g81 e (g186 cm [])) (g142 e x.a0.m x.a0.f x.a1.m x.a1.f (g25 x.a2.m x.a2.f zu)))))) (zj (a == O 2) (g276 I1 e v x (nN (g28 c p e.m (qE e.now::qE v::g100 e.x p e (g83 p e.m []))) (g99 e.x e (nN (g81 e (g186 cm [])) (g142 e x.a0.m x.a0.f x.a1.m x.a1.f (g25 x.a2.m x.a2.f zu)))))) (U (I1 (Xd.mk e x)) (g125 c p e.m e e.x (nN (g81 e (g186 cm [])) (g142 e x.a0.m x.a0.f x.a1.m x.a1.f (g25 x.a2.m x.a2.f zu))))))))) (zd Xd I1 fun y1=>zj (decide (y1.e.m.ct > e.m.ct)) (U (I2 y1.e.ne (y1.e.ns,y1.e.cs)) (nN (g186 cm (g86 y1.e (g11 y1.e.m []))) (g301 y1.e I2 fun y2=>zj (decide ((↑y2.fst:Int) < (↑y1.e.ne:Int))) (g305 y2 I2 y1.e fun y3=>nN (g186 cm (g299 y1.e y2 (qE y3::g11 y1.e.m []))) (g168 y3 y2 zu)) (U (Φ (Xe.mk { y1.e with en:=i64.wrap (y1.e.en+O 1),ns:=y2.fst,cs:=y2.snd,l0:=y1.e.m.lk,l1:=y1.e.m.lc,l2:=y1.e.m.lo,l3:=y1.e.m.ln } { y1.x with a3:=x.a3,a4:=x.a4 })) (g175 c p y1.e.m y1.e y1.e.x (nN (g186 cm (g131 y1.e y2 (qE y2.snd::g11 y1.e.m (g300 y2 [])))) (g82 y1.x.a0.m y1.x.a0.f y1.x.a1.m y1.x.a1.f (g25 y1.x.a2.m y1.x.a2.f zu)))))))) (U (I2 y1.e.ne (y1.e.ns,y1.e.cs)) (nN (g186 cm (g86 y1.e [])) (g301 y1.e I2 fun y2=>zj (decide ((↑y2.fst:Int) < (↑y1.e.ne:Int))) (g305 y2 I2 y1.e fun y3=>nN (g186 cm (g299 y1.e y2 [qE y3])) (g168 y3 y2 zu)) (U (Φ (Xe.mk { y1.e with en:=i64.wrap (y1.e.en+O 1),ns:=y2.fst,cs:=y2.snd,l0:=O 0,l1:=O 0,l2:=O 0,l3:=O 0 } { y1.x with a3:=x.a3,a4:=x.a4 })) (g175 c p y1.e.m y1.e y1.e.x (nN (g186 cm (g131 y1.e y2 (qE y2.snd::(4,.eqI 0 0)::g300 y2 []))) (g82 y1.x.a0.m y1.x.a0.f y1.x.a1.m y1.x.a1.f (g25 y1.x.a2.m y1.x.a2.f zu))))))))))))):=by kernel_rfl
abbrev g179 (a0:Nat) (l:LP):LP:=(1,.eq 4 4)::qE a0::l
abbrev g263 (a0:Ee) (a1:Mp) (a2:Fk) (a3:Mp) (a4:Fk) (a5:Mp) (a6:Fk) (a7:Mp) (a8:Fk) (k:V):V:=g142 a0 a1 a2 a3 a4 (g82 a5 a6 a7 a8 k)
theorem vDo4_eq (c:Cf) (p:Ep) (cm:Nat) (e:Ee) (x:M5) (a v:Int) (I1:Xd->Prop) (I2:Nat->Nat×Nat->Prop) (Φ:Xe->Prop):V.pr (.b (.b (.b (.t .z) (.b (.f (.t .z)) (.b (.f (.f (.t .z))) (.f (.f (.f .z)))))) .z) .z) (vDo c p cm e x 4 a v I1 I2 Φ)=
 g125 c p e.m e e.x (nN (g81 e (g179 cm [])) (g263 e x.a0.m x.a0.f x.a1.m x.a1.f x.a2.m x.a2.f x.a3.m x.a3.f (zd Bool (fun (x:Bool)=>True) fun y0=>zj y0 (nN [(2,.lt2 0 1 0 1)] (zj (a == O 0) (nN [(8,.lt2 0 1 0 1),qE v,qE ((↑4:Int))] (U (O 1<=(↑4:Int)/\(↑4:Int)<=O 9223372036854775807) (nA (fun (r:Int)=>O 0<=r/\r < (↑4:Int)) fun y1=>zj (y1 == O 0) (U (O 0<=O 0/\O 0 < (↑4:Int)) (nN ((2,.lt2 0 1 0 4)::(1,.lt 0 4)::g170 []) (g125 c p e.m e e.x (g266 x.a0.m x.a0.f e (nN (g68 c []) (g110 c p x.a0.m e x.a0.f I1 x fun y2=>g245 c p y2.s.m y2.s y2.s.x (nN (g179 cm []) (g263 e y2.m y2.s.f x.a1.m x.a1.f x.a2.m x.a2.f x.a3.m x.a3.f zu)))))))) (zj (y1 == O 1) (U (O 0<=O 1/\O 1 < (↑4:Int)) (nN ((2,.lt2 0 1 1 4)::(1,.lt 1 4)::qE false::g170 []) (g125 c p e.m e e.x (g266 x.a1.m x.a1.f e (nN (g68 c []) (g111 c p x.a1.m e x.a1.f I1 x fun y2=>g245 c p y2.s.m y2.s y2.s.x (nN (g179 cm []) (g263 e x.a0.m x.a0.f y2.m y2.s.f x.a2.m x.a2.f x.a3.m x.a3.f zu)))))))) (zj (y1 == O 2) (U (O 0<=O 2/\O 2 < (↑4:Int)) (nN ((2,.lt2 0 1 2 4)::(1,.lt 2 4)::g270 (g170 [])) (g125 c p e.m e e.x (g266 x.a2.m x.a2.f e (nN (g68 c []) (g189 c p x.a2.m e x.a2.f I1 x fun y2=>g245 c p y2.s.m y2.s y2.s.x (nN (g179 cm []) (g263 e x.a0.m x.a0.f x.a1.m x.a1.f y2.m y2.s.f x.a3.m x.a3.f zu)))))))) (U (O 0<=O 3/\O 3 < (↑4:Int)) (nN ((2,.lt2 0 1 3 4)::(1,.lt 3 4)::g270 [qE false,(3,.lt2 0 1 0 1)]) (g125 c p e.m e e.x (g266 x.a3.m x.a3.f e (nN (g68 c []) (g38 c p x.a3.m e x.a3.f fun y2=>U (I1 (Xd.mk { y2.s with en:=e.en,ns:=e.ns,cs:=e.cs,l0:=e.l0,l1:=e.l1,l2:=e.l2,l3:=e.l3 } { x with a3:=Ma.mk y2.s.f y2.m })) (g245 c p y2.s.m y2.s y2.s.x (nN (g179 cm []) (g263 e x.a0.m x.a0.f x.a1.m x.a1.f x.a2.m x.a2.f y2.m y2.s.f zu)))))))))))))) (zj (a == O 1) (g198 I1 e x c p e.m (nN (g228 e (g100 e.x p e (g83 p e.m []))) (g99 e.x e (nN (g81 e (g179 cm [])) (g263 e x.a0.m x.a0.f x.a1.m x.a1.f x.a2.m x.a2.f x.a3.m x.a3.f zu))))) (zj (a == O 2) (g276 I1 e v x (nN (g28 c p e.m (qE e.now::qE v::g100 e.x p e (g83 p e.m []))) (g99 e.x e (nN (g81 e (g179 cm [])) (g263 e x.a0.m x.a0.f x.a1.m x.a1.f x.a2.m x.a2.f x.a3.m x.a3.f zu))))) (U (I1 (Xd.mk e x)) (g125 c p e.m e e.x (nN (g81 e (g179 cm [])) (g263 e x.a0.m x.a0.f x.a1.m x.a1.f x.a2.m x.a2.f x.a3.m x.a3.f zu)))))))) (zd Xd I1 fun y1=>zj (decide (y1.e.m.ct > e.m.ct)) (U (I2 y1.e.ne (y1.e.ns,y1.e.cs)) (nN (g179 cm (g86 y1.e (g11 y1.e.m []))) (g301 y1.e I2 fun y2=>zj (decide ((↑y2.fst:Int) < (↑y1.e.ne:Int))) (g305 y2 I2 y1.e fun y3=>nN (g179 cm (g299 y1.e y2 (qE y3::g11 y1.e.m []))) (g168 y3 y2 zu)) (U (Φ (Xe.mk { y1.e with en:=i64.wrap (y1.e.en+O 1),ns:=y2.fst,cs:=y2.snd,l0:=y1.e.m.lk,l1:=y1.e.m.lc,l2:=y1.e.m.lo,l3:=y1.e.m.ln } { y1.x with a4:=x.a4 })) (g175 c p y1.e.m y1.e y1.e.x (nN (g179 cm (g131 y1.e y2 (qE y2.snd::g11 y1.e.m (g300 y2 [])))) (g82 y1.x.a0.m y1.x.a0.f y1.x.a1.m y1.x.a1.f (g82 y1.x.a2.m y1.x.a2.f y1.x.a3.m y1.x.a3.f zu)))))))) (U (I2 y1.e.ne (y1.e.ns,y1.e.cs)) (nN (g179 cm (g86 y1.e [])) (g301 y1.e I2 fun y2=>zj (decide ((↑y2.fst:Int) < (↑y1.e.ne:Int))) (g305 y2 I2 y1.e fun y3=>nN (g179 cm (g299 y1.e y2 [qE y3])) (g168 y3 y2 zu)) (U (Φ (Xe.mk { y1.e with en:=i64.wrap (y1.e.en+O 1),ns:=y2.fst,cs:=y2.snd,l0:=O 0,l1:=O 0,l2:=O 0,l3:=O 0 } { y1.x with a4:=x.a4 })) (g175 c p y1.e.m y1.e y1.e.x (nN (g179 cm (g131 y1.e y2 (qE y2.snd::(4,.eqI 0 0)::g300 y2 []))) (g82 y1.x.a0.m y1.x.a0.f y1.x.a1.m y1.x.a1.f (g82 y1.x.a2.m y1.x.a2.f y1.x.a3.m y1.x.a3.f zu)))))))))))):=by kernel_rfl
abbrev g173 (a0:Nat) (l:LP):LP:=(1,.eq 5 5)::qE a0::l
theorem vDo5_eq (c:Cf) (p:Ep) (cm:Nat) (e:Ee) (x:M5) (a v:Int) (I1:Xd->Prop) (I2:Nat->Nat×Nat->Prop) (Φ:Xe->Prop):V.pr (.b (.b (.b (.t .z) (.b (.f (.t .z)) (.b (.f (.f (.t .z))) (.b (.f (.f (.f (.t .z)))) (.f (.f (.f (.f .z)))))))) .z) .z) (vDo c p cm e x 5 a v I1 I2 Φ)=
 g125 c p e.m e e.x (nN (g81 e (g173 cm [])) (g263 e x.a0.m x.a0.f x.a1.m x.a1.f x.a2.m x.a2.f x.a3.m x.a3.f (g25 x.a4.m x.a4.f (zd Bool (fun (x:Bool)=>True) fun y0=>zj y0 (nN [(2,.lt2 0 1 0 1)] (zj (a == O 0) (nN [(8,.lt2 0 1 0 1),qE v,qE ((↑5:Int))] (U (O 1<=(↑5:Int)/\(↑5:Int)<=O 9223372036854775807) (nA (fun (r:Int)=>O 0<=r/\r < (↑5:Int)) fun y1=>zj (y1 == O 0) (U (O 0<=O 0/\O 0 < (↑5:Int)) (nN ((2,.lt2 0 1 0 5)::(1,.lt 0 5)::g170 []) (g125 c p e.m e e.x (g266 x.a0.m x.a0.f e (nN (g68 c []) (g110 c p x.a0.m e x.a0.f I1 x fun y2=>g245 c p y2.s.m y2.s y2.s.x (nN (g173 cm []) (g263 e y2.m y2.s.f x.a1.m x.a1.f x.a2.m x.a2.f x.a3.m x.a3.f (g25 x.a4.m x.a4.f zu))))))))) (zj (y1 == O 1) (U (O 0<=O 1/\O 1 < (↑5:Int)) (nN ((2,.lt2 0 1 1 5)::(1,.lt 1 5)::qE false::g170 []) (g125 c p e.m e e.x (g266 x.a1.m x.a1.f e (nN (g68 c []) (g111 c p x.a1.m e x.a1.f I1 x fun y2=>g245 c p y2.s.m y2.s y2.s.x (nN (g173 cm []) (g263 e x.a0.m x.a0.f y2.m y2.s.f x.a2.m x.a2.f x.a3.m x.a3.f (g25 x.a4.m x.a4.f zu))))))))) (zj (y1 == O 2) (U (O 0<=O 2/\O 2 < (↑5:Int)) (nN ((2,.lt2 0 1 2 5)::(1,.lt 2 5)::g270 (g170 [])) (g125 c p e.m e e.x (g266 x.a2.m x.a2.f e (nN (g68 c []) (g189 c p x.a2.m e x.a2.f I1 x fun y2=>g245 c p y2.s.m y2.s y2.s.x (nN (g173 cm []) (g263 e x.a0.m x.a0.f x.a1.m x.a1.f y2.m y2.s.f x.a3.m x.a3.f (g25 x.a4.m x.a4.f zu))))))))) (zj (y1 == O 3) (U (O 0<=O 3/\O 3 < (↑5:Int)) (nN ((2,.lt2 0 1 3 5)::(1,.lt 3 5)::g270 (qE false::g170 [])) (g125 c p e.m e e.x (g266 x.a3.m x.a3.f e (nN (g68 c []) (g38 c p x.a3.m e x.a3.f fun y2=>U (I1 (Xd.mk { y2.s with en:=e.en,ns:=e.ns,cs:=e.cs,l0:=e.l0,l1:=e.l1,l2:=e.l2,l3:=e.l3 } { x with a3:=Ma.mk y2.s.f y2.m })) (g245 c p y2.s.m y2.s y2.s.x (nN (g173 cm []) (g263 e x.a0.m x.a0.f x.a1.m x.a1.f x.a2.m x.a2.f y2.m y2.s.f (g25 x.a4.m x.a4.f zu)))))))))) (U (O 0<=O 4/\O 4 < (↑5:Int)) (nN ((2,.lt2 0 1 4 5)::(1,.lt 4 5)::g270 (g270 [(3,.lt2 0 1 0 1)])) (g125 c p e.m e e.x (g266 x.a4.m x.a4.f e (nN (g68 c []) (g38 c p x.a4.m e x.a4.f fun y2=>U (I1 (Xd.mk { y2.s with en:=e.en,ns:=e.ns,cs:=e.cs,l0:=e.l0,l1:=e.l1,l2:=e.l2,l3:=e.l3 } { x with a4:=Ma.mk y2.s.f y2.m })) (g245 c p y2.s.m y2.s y2.s.x (nN (g173 cm []) (g263 e x.a0.m x.a0.f x.a1.m x.a1.f x.a2.m x.a2.f x.a3.m x.a3.f (g25 y2.m y2.s.f zu)))))))))))))))) (zj (a == O 1) (g198 I1 e x c p e.m (nN (g228 e (g100 e.x p e (g83 p e.m []))) (g99 e.x e (nN (g81 e (g173 cm [])) (g263 e x.a0.m x.a0.f x.a1.m x.a1.f x.a2.m x.a2.f x.a3.m x.a3.f (g25 x.a4.m x.a4.f zu)))))) (zj (a == O 2) (g276 I1 e v x (nN (g28 c p e.m (qE e.now::qE v::g100 e.x p e (g83 p e.m []))) (g99 e.x e (nN (g81 e (g173 cm [])) (g263 e x.a0.m x.a0.f x.a1.m x.a1.f x.a2.m x.a2.f x.a3.m x.a3.f (g25 x.a4.m x.a4.f zu)))))) (U (I1 (Xd.mk e x)) (g125 c p e.m e e.x (nN (g81 e (g173 cm [])) (g263 e x.a0.m x.a0.f x.a1.m x.a1.f x.a2.m x.a2.f x.a3.m x.a3.f (g25 x.a4.m x.a4.f zu))))))))) (zd Xd I1 fun y1=>zj (decide (y1.e.m.ct > e.m.ct)) (U (I2 y1.e.ne (y1.e.ns,y1.e.cs)) (nN (g173 cm (g86 y1.e (g11 y1.e.m []))) (g301 y1.e I2 fun y2=>zj (decide ((↑y2.fst:Int) < (↑y1.e.ne:Int))) (g305 y2 I2 y1.e fun y3=>nN (g173 cm (g299 y1.e y2 (qE y3::g11 y1.e.m []))) (g168 y3 y2 zu)) (U (Φ (Xe.mk (Ee.mk y1.e.m y1.e.now y1.e.dr y1.e.x y1.e.kc y1.e.ne y1.e.nc (i64.wrap (y1.e.en+O 1)) y2.fst y2.snd y1.e.m.lk y1.e.m.lc y1.e.m.lo y1.e.m.ln) y1.x)) (g175 c p y1.e.m y1.e y1.e.x (nN (g173 cm (g131 y1.e y2 (qE y2.snd::g11 y1.e.m (g300 y2 [])))) (g82 y1.x.a0.m y1.x.a0.f y1.x.a1.m y1.x.a1.f (g82 y1.x.a2.m y1.x.a2.f y1.x.a3.m y1.x.a3.f (g25 y1.x.a4.m y1.x.a4.f zu))))))))) (U (I2 y1.e.ne (y1.e.ns,y1.e.cs)) (nN (g173 cm (g86 y1.e [])) (g301 y1.e I2 fun y2=>zj (decide ((↑y2.fst:Int) < (↑y1.e.ne:Int))) (g305 y2 I2 y1.e fun y3=>nN (g173 cm (g299 y1.e y2 [qE y3])) (g168 y3 y2 zu)) (U (Φ (Xe.mk (Ee.mk y1.e.m y1.e.now y1.e.dr y1.e.x y1.e.kc y1.e.ne y1.e.nc (i64.wrap (y1.e.en+O 1)) y2.fst y2.snd (O 0) (O 0) (O 0) (O 0)) y1.x)) (g175 c p y1.e.m y1.e y1.e.x (nN (g173 cm (g131 y1.e y2 (qE y2.snd::(4,.eqI 0 0)::g300 y2 []))) (g82 y1.x.a0.m y1.x.a0.f y1.x.a1.m y1.x.a1.f (g82 y1.x.a2.m y1.x.a2.f y1.x.a3.m y1.x.a3.f (g25 y1.x.a4.m y1.x.a4.f zu)))))))))))))):=by kernel_rfl
section
variable {b:Nat} {c:Cf} {p:Ep} {cm:Nat} {e:Ee} {x:M5} {a v:Int} {Φ:Xe->Prop}
theorem D_st {k:Nat} (h:ΦD b c k e x):e.ns<=e.cs:=h.1.st
theorem D_ka {k:Nat} (h:ΦD b c k e x) (i:Nat):upto e.x.n e.x.kl i<=e.kc i/\upto e.x.n e.x.kl i<=upto e.x.n e.x.kl i:=h.1.ka i
theorem D_la {k:Nat} (h:ΦD b c k e x) (j:Nat) (hj:j < k) (i:Nat):upto (at5 x j).m.n (at5 x j).f.ll i<=(at5 x j).f.lc i/\upto (at5 x j).m.n (at5 x j).f.ll i<=upto (at5 x j).m.n (at5 x j).f.ll i:=(h.2 j hj).la i
theorem P_la {k:Nat} (h:preD b c k e x) (j:Nat) (hj:j < k) (i:Nat):upto (at5 x j).m.n (at5 x j).f.ll i<=(at5 x j).f.lc i/\upto (at5 x j).m.n (at5 x j).f.ll i<=upto (at5 x j).m.n (at5 x j).f.ll i:=(h.hM j hj).la i
theorem P_ts {k:Nat} (h:preD b c k e x) (j:Nat) (hj:j < k) {q:Ep}:preTs c q (e.es (at5 x j).f) (at5 x j).m:=pre_ts h (h.hM j hj)
theorem P_1 {k:Nat} (h:preD b c k e x) (j:Nat) (hj:j < k) {q:Ep} {y:So} (hy:ΦTs c q (e.es (at5 x j).f) (at5 x j).m y) (i:Nat):upto y.s.x.n y.s.x.kl i<=y.s.kc i/\upto y.s.x.n y.s.x.kl i<=upto y.s.x.n y.s.x.kl i:=up_d (Z _) (stp_e h (h.hM j hj) hy).1 i
theorem P_2 {k:Nat} (h:preD b c k e x) (j:Nat) (hj:j < k) {q:Ep} {y:So} (hy:ΦTs c q (e.es (at5 x j).f) (at5 x j).m y) (i:Nat):upto y.m.n y.s.f.ll i<=y.s.f.lc i/\upto y.m.n y.s.f.ll i<=upto y.m.n y.s.f.ll i:=up_d (Z _) (stp_e h (h.hM j hj) hy).2 i
theorem vhDo:
  (preD b c 2 e x->(∀ y,ΦD b c 2 y.e y.x->Φ y)->zae (vDo c p cm e x 2 a v (fun y=>ΦD b c 2 y.e y.x) (fun _ q=>q.1<=q.2) Φ))/\
  (preD b c 3 e x->(∀ y,ΦD b c 3 y.e y.x->Φ y)->zae (vDo c p cm e x 3 a v (fun y=>ΦD b c 3 y.e y.x) (fun _ q=>q.1<=q.2) Φ))/\
  (preD b c 4 e x->(∀ y,ΦD b c 4 y.e y.x->Φ y)->zae (vDo c p cm e x 4 a v (fun y=>ΦD b c 4 y.e y.x) (fun _ q=>q.1<=q.2) Φ))/\
  (preD b c 5 e x->(∀ y,ΦD b c 5 y.e y.x->Φ y)->zae (vDo c p cm e x 5 a v (fun y=>ΦD b c 5 y.e y.x) (fun _ q=>q.1<=q.2) Φ)):=by
 refine ⟨fun hp hΦ=>zae.pr (vDo2_eq ..) ?_,fun hp hΦ=>zae.pr (vDo3_eq ..) ?_,fun hp hΦ=>zae.pr (vDo4_eq ..) ?_,fun hp hΦ=>zae.pr (vDo5_eq ..) ?_⟩
 all_goals (with_reducible repeat' first | exact zk | refine zo ?_ | refine zn ?_ | refine zm ?_ ?_ | refine zh ?_ | refine nN_h rfl ?_ | refine z9 ?_ ?_ | intro _)
 all_goals first
  | rfl
  | exact .inl rfl
  | exact Z _
  | assumption
  | exact ⟨Z _,rfl⟩
  | (constructor<;>decide)
  | exact ⟨0,by decide⟩
  | exact exTs
  | exact okEe.ka hp.he _
  | exact P_la hp 0 (by decide) _
  | exact P_la hp 1 (by decide) _
  | exact P_la hp 2 (by decide) _
  | exact P_la hp 3 (by decide) _
  | exact P_la hp 4 (by decide) _
  | exact P_ts hp 0 (by decide)
  | exact P_ts hp 1 (by decide)
  | exact P_ts hp 2 (by decide)
  | exact P_ts hp 3 (by decide)
  | exact P_ts hp 4 (by decide)
  | exact D_tick hp
  | exact D_draw hp
  | exact ΦD.same hp
  | exact D_st ‹_›
  | exact D_mx hp.hb.2 ‹_› ‹_›
  | exact D_mu ‹_›
  | exact hΦ _ (D_end ‹_› ‹_› fun j hj=>by rcases (show j=0\/j=1\/j=2\/j=3\/j=4 by omega) with rfl | rfl | rfl | rfl | rfl<;>first | rfl | omega)
  | exact D_ka ‹_› _
  | exact D_la ‹_› 0 (by decide) _
  | exact D_la ‹_› 1 (by decide) _
  | exact D_la ‹_› 2 (by decide) _
  | exact D_la ‹_› 3 (by decide) _
  | exact D_la ‹_› 4 (by decide) _
  | exact D_step hp (by decide) (j:=0) (by decide) ‹_›
  | exact D_step hp (by decide) (j:=1) (by decide) ‹_›
  | exact D_step hp (by decide) (j:=2) (by decide) ‹_›
  | exact D_step hp (by decide) (j:=3) (by decide) ‹_›
  | exact D_step hp (by decide) (j:=4) (by decide) ‹_›
  | exact P_1 hp 0 (by decide) ‹_› _
  | exact P_1 hp 1 (by decide) ‹_› _
  | exact P_1 hp 2 (by decide) ‹_› _
  | exact P_1 hp 3 (by decide) ‹_› _
  | exact P_1 hp 4 (by decide) ‹_› _
  | exact P_2 hp 0 (by decide) ‹_› _
  | exact P_2 hp 1 (by decide) ‹_› _
  | exact P_2 hp 2 (by decide) ‹_› _
  | exact P_2 hp 3 (by decide) ‹_› _
  | exact P_2 hp 4 (by decide) ‹_› _
  | trace_state
end
def preDs (c:Cf) (k:Nat) (e:Ee) (x:M5):Prop:=∃ b,preD b c k e x
def ΦDs (c:Cf) (k:Nat) (e:Ee) (x:M5) (y:Xe):Prop:=∀ b,preD b c k e x->ΦD b c k y.e y.x
theorem ΦD.up {b b':Nat} {c:Cf} {k:Nat} {e:Ee} {x:M5} (h:ΦD b c k e x) (hb:b<=b'):ΦD b' c k e x:=⟨h.1.le (by omega),h.2.le (by omega)⟩
noncomputable def bD (c:Cf) (k:Nat) (e:Ee) (x:M5):Nat:=Classical.epsilon fun n=>preD n c k e x/\∀ j,preD j c k e x->n<=j
theorem bD_h {c:Cf} {k:Nat} {e:Ee} {x:M5} (h:preDs c k e x):preD (bD c k e x) c k e x/\∀ y:Xe,ΦD (bD c k e x) c k y.e y.x->ΦDs c k e x y:=by
 have hb:=Classical.epsilon_spec (ex_min h)
 exact ⟨hb.1,fun y hy b' hb'=>hy.up (hb.2 b' hb')⟩
noncomputable section
def fk00:Fk:=⟨fun _=>0,fun _=>0,fun _=>0,fun _=>0,fun _=>0,fun _=>0,fun _=>0,fun _=>0,fun _=>0,fun _=>0,fun _=>0,fun _=>0,fun _=>0,fun _=>0,fun _=>0,fun _=>0,fun _=>0,fun _=>0,fun _=>0,fun _ _=>0⟩
def ma0:Ma:=⟨fk00,⟨0,0,true,0,0⟩⟩
def m50:M5:=⟨ma0,ma0,ma0,ma0,ma0⟩
def ptL:List SC->List Nat
 | .ptr k _ _ _ _::l=>k::ptL l
 | _=>[]
def rdMaN (km:Nat) (h:HL):Option (Ma×List Nat):=fN (scK (zav km 0 h)) fun kf=>match rdMpK km h,rdFk kf h with
 | some m,some (f,kl)=>some (⟨f,m⟩,[km,kf,kl])
 | _,_=>none
def rdM5N (h:HL):List Nat->Nat->Option (M5×List Nat)
 | [],_=>some (m50,[])
 | km::l,j=>match rdMaN km h,rdM5N h l (j+1) with
  | some (a,ks),some (x,σ)=>some (set5 x a j,ks++σ)
  | _,_=>none
def rdEeK (ke kx:Nat) (h:HL):Option (Ee×Nat):=match rdRv ke h,(find kx h).map ownC with
 | some (r,[_,_,_,_,k5,_]),some [_,some mm,some en,some st,some l0,some l1,some l2,some l3]=>match rdRk k5 r.rn h,numC en,szC st,numC l0,numC l1,numC l2,numC l3,szC mm with
  | some (x,_,kc),some en,some (ns,cs),some l0,some l1,some l2,some l3,some (_,cm)=>some (⟨r.m,r.now,r.dr,x,kc,r.ne,r.nc,en,ns,cs,l0,l1,l2,l3⟩,cm)
  | _,_,_,_,_,_,_,_=>none
 | _,_=>none
structure En0 where
 c:Cf
 p:Ep
 e:Ee
 x:M5
 cm:Nat
 k:Nat
 σ:List Nat
def rdEn (kx:Nat) (h:HL):Option En0:=fN (scK (zav kx 0 h)) fun ke=>fN (scK (zav kx 1 h)) fun km=>fN (scK (zav kx 3 h)) fun ks=>match (find km h).map zds,rdEeK ke kx h with
 | some [.ck l],some (e,cm)=>match rdM5N h (ptL l) 0 with
  | some (x,m0::kf::σ)=>match rdEp ke kf h with
   | some (c,p,_,[a0,a1,a2,a3,a4,a5,a6,a7,_,_])=>some ⟨c,⟨p.n,p.cap,p.rc,0,0⟩,e,x,cm,l.length,a0::a1::a2::a3::a4::a5::a6::a7::kx::km::ks::m0::kf::σ⟩
   | _=>none
  | _=>none
 | _,_=>none
def postD (c:Cf) (p:Ep) (cm:Nat) (e:Ee) (x:M5) (k:Nat):Out (SV×Hp):=.need (preDs c k e x) (.any Xe (ΦDs c k e x) fun y=>.leaf (.t [],⟨y.e.hD c p cm y.x k (11+3 * k) (12+3 * k) (13+3 * k) (fk1 (14+3 * k)),14+5 * k,fun _=>True⟩))
def hDo (c:Cf) (p:Ep) (cm:Nat) (e:Ee) (x:M5) (k:Nat):HL:=e.hD c p cm x k 7 6 10 fk0++(9,mV k)::hCk c
def cDo:List SV->Hp->Out (SV×Hp):=fun args H=>match args with
 | [.c (.ptr kx _ _ _ _),.a [a,v]]=>fN kx fun kx=>match rdEn kx H.h,numC a,numC v with
  | some ⟨c,p,e,x,cm,k,σ⟩,some a,some v=>match k with
   | 2=>useP σ 17 (argDo a v) (hDo c p cm e x 2) (postD c p cm e x 2) args H
   | 3=>useP σ 20 (argDo a v) (hDo c p cm e x 3) (postD c p cm e x 3) args H
   | 4=>useP σ 23 (argDo a v) (hDo c p cm e x 4) (postD c p cm e x 4) args H
   | 5=>useP σ 26 (argDo a v) (hDo c p cm e x 5) (postD c p cm e x 5) args H
   | _=>.bad 490
  | _,_,_=>.bad 491
 | _=>.bad 492
theorem lDo2 {c:Cf} {p:Ep} {cm:Nat} {e:Ee} {x:M5} {a v:Int}:zah P fDo (argDo a v) (hDo c p cm e x 2) 17 (postD c p cm e x 2):=zad zgj fun h=>vhDo.1 (bD_h h).1 (bD_h h).2
theorem lDo3 {c:Cf} {p:Ep} {cm:Nat} {e:Ee} {x:M5} {a v:Int}:zah P fDo (argDo a v) (hDo c p cm e x 3) 20 (postD c p cm e x 3):=zad zgj fun h=>vhDo.2.1 (bD_h h).1 (bD_h h).2
theorem lDo4 {c:Cf} {p:Ep} {cm:Nat} {e:Ee} {x:M5} {a v:Int}:zah P fDo (argDo a v) (hDo c p cm e x 4) 23 (postD c p cm e x 4):=zad zgj fun h=>vhDo.2.2.1 (bD_h h).1 (bD_h h).2
theorem lDo5 {c:Cf} {p:Ep} {cm:Nat} {e:Ee} {x:M5} {a v:Int}:zah P fDo (argDo a v) (hDo c p cm e x 5) 26 (postD c p cm e x 5):=zad zgj fun h=>vhDo.2.2.2 (bD_h h).1 (bD_h h).2
theorem cDo_ok:zab P fDo cDo:=zac fun args H=>by
 unfold cDo
 simp only [fN_eq]
 repeat' split
 all_goals first
  | exact .inl ⟨_,rfl⟩
  | with_reducible exact .inr ⟨_,_,_,_,_,rfl,lDo2⟩
  | with_reducible exact .inr ⟨_,_,_,_,_,rfl,lDo3⟩
  | with_reducible exact .inr ⟨_,_,_,_,_,rfl,lDo4⟩
  | with_reducible exact .inr ⟨_,_,_,_,_,rfl,lDo5⟩
def fRn:FuncId:=21
def conRn:Con:=Con.add fDo cDo con0
theorem zgf:zak P conRn:=.add cDo_ok zak.nil
structure Xr where
 e:Ee
 x:M5
 i:Int
def rdXr (d:M5) (k:Nat) (s:St):Option Xr:=match rdEe s.H.h,rdM5 d s.H.h k 0,tmI 4 s with
 | some e,some x,some i=>some ⟨e,x,i⟩
 | _,_,_=>none
def laRn (c:Cf) (p:Ep) (cm:Nat) (d:M5) (k n:Nat) (I:Xr->Prop) (s:St):Option (LA Xr):=fN (renK 0 s) fun ke=>fN (kidN s) fun kk=>fN (stK s) fun ks=>
 some ⟨[(fun _=>0,true),(fun _=>4,true),(fun _=>5,true),(kidN,false),(renK 0,false),(fun _=>8,true),(stK,false)]++pthM k 0,
  fun y=>[(y.e.rv c p).b 1 2 4 5 ke,wRow p.cap p.n y.e.m,y.e.x.row kk y.e.kc p.rc,y.e.x.fam y.e.x.n y.e.kc,evU y.e.ne y.e.nc,y.e.eng 0 9 k cm ks,.row 3 y.e.cs y.e.ns [.cu]]++blkM y.x s k 0,[4],fun y=>[iv y.i],rdXr d k,I,fun y=>n - y.i.toNat⟩
def argRn (k n cap:Nat):List SV:=[.c (.ptr 8 (.k 0) (.k 0) 0 8),.c (slK (11+3 * k) 2 n cap)]
def scV (n:Nat) (ka va:Nat->Int):Blk:=.view 1 (fun _=>n) [.ci .i64 fun _ e=>ka e,.ci .i64 fun _ e=>va e]
def hRn (c:Cf) (p:Ep) (cm:Nat) (e:Ee) (x:M5) (k n:Nat) (ka va:Nat->Int):HL:=e.hD c p cm x k 7 6 10 fk0++(9,mV k)::(11+3 * k,scV n ka va)::hCk c
def Ee.hZ (e:Ee) (c:Cf) (p:Ep) (ke kk:Nat):HL:=[(0,(e.rv c p).b 1 2 4 5 ke),(4,wRow p.cap p.n e.m),(5,e.x.row kk e.kc p.rc),(kk,e.x.fam e.x.n e.kc),(ke,evU e.ne e.nc),(8,.own tEn 8 (some (.ptr 0 (.k 0) (.k 0) 0 21)::noC 7))]
def LSz (_:SV) (H:Hp):List Nat:=match kidK 5 H.h with
 | some (kk,_)=>[scK (zav 0 20 H.h),kk]
 | none=>[]
def vRn (c:Cf) (p:Ep) (cm:Nat) (e:Ee) (x:M5) (n cap:Nat) (ka va:Nat->Int) (k:Nat) (I:Xr->Prop) (Φ:Ee->Prop):V:=verF P conRn 8 10 fRn ((0,.ren (renK 0))::(0,.ren kidN)::(0,.ren stK)::gsM k 0)
 (.loop Xr [] (laRn c p cm x k n I) .nil .nil) (argRn k n cap) ⟨hRn c p cm e x k n ka va,12+3 * k,fun _=>True⟩
 (finV (X:=Ee) (12+3 * k) (14+3 * k) (fun _ H=>rdEe H.h) LSz Φ (fun _=>.t []) (fun y=>y.hZ c p (12+3 * k) (13+3 * k)))
end
def okR (c:Cf) (k i:Nat) (e:Ee) (x:M5):Prop:=okEe (1+24 * i) c e/\okMs (1+24 * i) c k x
def IRn (c:Cf) (k n:Nat) (y:Xr):Prop:=(0<=y.i/\y.i<=(n:Int))/\okR c k y.i.toNat y.e y.x
structure zc6 (c:Cf) (k n:Nat) (e:Ee) (x:M5):Prop where
 hY:okY c
 hC:okC c
 hU:c.nU<=900000
 hn:n<=30000
 h:okR c k 0 e x
section
variable {c:Cf} {k n:Nat} {e:Ee} {x x':M5} {y:Xr} {w:Xe}
theorem okMs.pad {b:Nat} (h:okMs b c k x) (hx:∀ j,j < k->at5 x' j=at5 x j):okMs b c k x':=fun j hj=>by rw [hx j hj]; exact h j hj
theorem R_0 (hp:zc6 c k n e x):IRn c k n ⟨e,x,O 0⟩:=⟨⟨Int.le_refl _,zp n⟩,hp.h⟩
theorem R_lt (hy:IRn c k n y) (hl:decide (y.i < (n:Int))=true):y.i.toNat < n:=by
 have h1:=of_decide_eq_true hl
 have h2:=hy.1.1
 omega
theorem R_ix (hy:IRn c k n y) (hl:decide (y.i < (n:Int))=true):O 0<=y.i/\y.i < (n:Int):=⟨hy.1.1,of_decide_eq_true hl⟩
theorem R_in (hy:IRn c k n y) (hl:decide (y.i < (n:Int))=true):0 < 1/\0+y.i.toNat < n:=⟨by decide,by have:=R_lt hy hl; omega⟩
theorem R_pre (hp:zc6 c k n e x) (hy:IRn c k n y) (hl:decide (y.i < (n:Int))=true) (hx:∀ j,j < k->at5 x' j=at5 y.x j):preDs c k y.e x':=by
 have h1:=R_lt hy hl
 have h2:=hp.hn
 exact ⟨1+24 * y.i.toNat,hp.hY,hp.hC,hp.hU,⟨by omega,by omega⟩,hy.2.1,hy.2.2.pad hx⟩
theorem R_ex:∃ w,ΦDs c k e x w:=⟨⟨e,x⟩,fun b h=>ΦD.same h⟩
theorem R_w (hp:zc6 c k n e x) (hy:IRn c k n y) (hl:decide (y.i < (n:Int))=true) (hx:∀ j,j < k->at5 x' j=at5 y.x j) (hw:ΦDs c k y.e x' w):ΦD (1+24 * y.i.toNat) c k w.e w.x:=by
 have h1:=R_lt hy hl
 have h2:=hp.hn
 exact hw _ ⟨hp.hY,hp.hC,hp.hU,⟨by omega,by omega⟩,hy.2.1,hy.2.2.pad hx⟩
theorem R_i (hp:zc6 c k n e x) (hy:IRn c k n y) (hl:decide (y.i < (n:Int))=true):i64.wrap (y.i+O 1)=y.i+1:=by
 have h1:=R_ix hy hl
 have h2:=hp.hn
 simp only [zz] at h1 ⊢
 exact w64 (by omega)
theorem R_s (hp:zc6 c k n e x) (hy:IRn c k n y) (hl:decide (y.i < (n:Int))=true) {x1 x2:M5} (hw:ΦD (1+24 * y.i.toNat) c k w.e x1) (hx:∀ j,j < k->at5 x2 j=at5 x1 j):IRn c k n ⟨w.e,x2,i64.wrap (y.i+O 1)⟩:=by
 have h1:=R_ix hy hl
 simp only [zz] at h1
 have e1:=R_i hp hy hl
 have e2:(i64.wrap (y.i+O 1)).toNat=y.i.toNat+1:=by rw [e1]; omega
 refine ⟨⟨?_,?_⟩,?_⟩
 ·show 0<=i64.wrap _
  rw [e1]; omega
 ·show i64.wrap _<=(n:Int)
  rw [e1]; omega
 ·show okR c k (i64.wrap (y.i+O 1)).toNat w.e x2
  rw [e2]
  exact ⟨hw.1.le (by omega),(hw.2.pad hx).le (by omega)⟩
theorem R_mu (hp:zc6 c k n e x) (hy:IRn c k n y) (hl:decide (y.i < (n:Int))=true):n - (i64.wrap (y.i+O 1)).toNat < n - y.i.toNat:=by
 have h1:=R_ix hy hl
 have h3:=R_lt hy hl
 simp only [zz] at h1
 rw [R_i hp hy hl]
 omega
theorem R_end (hp:zc6 c k n e x) (hy:IRn c k n y):okEe 900000 c y.e:=by
 have h2:=hp.hn
 have h3:=hy.1
 exact hy.2.1.le (by omega)
end
abbrev g115 (a0:Nat) (a1:Xr) (k:V):V:=U (a0 - (i64.wrap (a1.i+O 1)).toNat < a0 - a1.i.toNat) (nN [qE (i64.wrap (a1.i+O 1))] k)
abbrev g154 (a0:Xr) (a1:Nat) (k:V):V:=U (O 0<=a0.i/\a0.i < (↑a1:Int)) (U (0 < 1/\0+a0.i.toNat < a1) k)
abbrev g174 (a0:Xr) (a1:Nat) (k:V):V:=U (0 < 1/\0+a0.i.toNat < a1) (U (0 < 1/\0+a0.i.toNat < a1) k)
abbrev g271 (a0:Xr->Prop) (a1:Ee) (a2:M5) (k:V):V:=U (a0 (Xr.mk a1 a2 (O 0))) (nN [(1,.eqI 0 0)] k)
theorem vRn2_eq (c:Cf) (p:Ep) (cm:Nat) (e:Ee) (x:M5) (n cap:Nat) (ka va:Nat->Int) (I:Xr->Prop) (Φ:Ee->Prop):V.pr .z (vRn c p cm e x n cap ka va 2 I Φ)=
 g271 I e x (g125 c p e.m e e.x (nN (g81 e (g191 cm [])) (g142 e x.a0.m x.a0.f x.a1.m x.a1.f (zd Xr I fun y0=>zj (decide (y0.i < (↑n:Int))) (g154 y0 n (g174 y0 n (nN [qE (ka (0+y0.i.toNat)),qE (va (0+y0.i.toNat))] (g175 c p y0.e.m y0.e y0.e.x (nN (g191 cm []) (g142 y0.e y0.x.a0.m y0.x.a0.f y0.x.a1.m y0.x.a1.f (nN ((1,.le 1 1)::(1,.pf (∀ (i:Nat),i < 1->2<=2) (by intros; exact Z _))::g68 c []) (U (preDs c 2 y0.e (M5.mk y0.x.a0 y0.x.a1 ma0 ma0 ma0)) (nA (ΦDs c 2 y0.e (M5.mk y0.x.a0 y0.x.a1 ma0 ma0 ma0)) fun y1=>U (I (Xr.mk y1.e (M5.mk y1.x.a0 y1.x.a1 x.a2 x.a3 x.a4) (i64.wrap (y0.i+O 1)))) (g115 n y0 (g175 c p y1.e.m y1.e y1.e.x (nN (g191 cm []) (g142 y1.e y1.x.a0.m y1.x.a0.f y1.x.a1.m y1.x.a1.f zu))))))))))))) (U (Φ y0.e) (g175 c p y0.e.m y0.e y0.e.x zu)))))):=by kernel_rfl
theorem vRn3_eq (c:Cf) (p:Ep) (cm:Nat) (e:Ee) (x:M5) (n cap:Nat) (ka va:Nat->Int) (I:Xr->Prop) (Φ:Ee->Prop):V.pr .z (vRn c p cm e x n cap ka va 3 I Φ)=
 g271 I e x (g125 c p e.m e e.x (nN (g81 e (g186 cm [])) (g142 e x.a0.m x.a0.f x.a1.m x.a1.f (g25 x.a2.m x.a2.f (zd Xr I fun y0=>zj (decide (y0.i < (↑n:Int))) (g154 y0 n (g174 y0 n (nN [qE (ka (0+y0.i.toNat)),qE (va (0+y0.i.toNat))] (g175 c p y0.e.m y0.e y0.e.x (nN (g186 cm []) (g142 y0.e y0.x.a0.m y0.x.a0.f y0.x.a1.m y0.x.a1.f (g25 y0.x.a2.m y0.x.a2.f (nN ((1,.le 1 1)::(1,.pf (∀ (i:Nat),i < 1->3<=3) (by intros; exact Z _))::g68 c []) (U (preDs c 3 y0.e { y0.x with a3:=ma0,a4:=ma0 }) (nA (ΦDs c 3 y0.e { y0.x with a3:=ma0,a4:=ma0 }) fun y1=>U (I (Xr.mk y1.e { y1.x with a3:=x.a3,a4:=x.a4 } (i64.wrap (y0.i+O 1)))) (g115 n y0 (g175 c p y1.e.m y1.e y1.e.x (nN (g186 cm []) (g142 y1.e y1.x.a0.m y1.x.a0.f y1.x.a1.m y1.x.a1.f (g25 y1.x.a2.m y1.x.a2.f zu))))))))))))))) (U (Φ y0.e) (g175 c p y0.e.m y0.e y0.e.x zu))))))):=by kernel_rfl
theorem vRn4_eq (c:Cf) (p:Ep) (cm:Nat) (e:Ee) (x:M5) (n cap:Nat) (ka va:Nat->Int) (I:Xr->Prop) (Φ:Ee->Prop):V.pr .z (vRn c p cm e x n cap ka va 4 I Φ)=
 g271 I e x (g125 c p e.m e e.x (nN (g81 e (g179 cm [])) (g263 e x.a0.m x.a0.f x.a1.m x.a1.f x.a2.m x.a2.f x.a3.m x.a3.f (zd Xr I fun y0=>zj (decide (y0.i < (↑n:Int))) (g154 y0 n (g174 y0 n (nN [qE (ka (0+y0.i.toNat)),qE (va (0+y0.i.toNat))] (g175 c p y0.e.m y0.e y0.e.x (nN (g179 cm []) (g263 y0.e y0.x.a0.m y0.x.a0.f y0.x.a1.m y0.x.a1.f y0.x.a2.m y0.x.a2.f y0.x.a3.m y0.x.a3.f (nN ((1,.le 1 1)::(1,.pf (∀ (i:Nat),i < 1->4<=4) (by intros; exact Z _))::g68 c []) (U (preDs c 4 y0.e { y0.x with a4:=ma0 }) (nA (ΦDs c 4 y0.e { y0.x with a4:=ma0 }) fun y1=>U (I (Xr.mk y1.e { y1.x with a4:=x.a4 } (i64.wrap (y0.i+O 1)))) (g115 n y0 (g175 c p y1.e.m y1.e y1.e.x (nN (g179 cm []) (g263 y1.e y1.x.a0.m y1.x.a0.f y1.x.a1.m y1.x.a1.f y1.x.a2.m y1.x.a2.f y1.x.a3.m y1.x.a3.f zu))))))))))))) (U (Φ y0.e) (g175 c p y0.e.m y0.e y0.e.x zu)))))):=by kernel_rfl
theorem vRn5_eq (c:Cf) (p:Ep) (cm:Nat) (e:Ee) (x:M5) (n cap:Nat) (ka va:Nat->Int) (I:Xr->Prop) (Φ:Ee->Prop):V.pr .z (vRn c p cm e x n cap ka va 5 I Φ)=
 g271 I e x (g125 c p e.m e e.x (nN (g81 e (g173 cm [])) (g263 e x.a0.m x.a0.f x.a1.m x.a1.f x.a2.m x.a2.f x.a3.m x.a3.f (g25 x.a4.m x.a4.f (zd Xr I fun y0=>zj (decide (y0.i < (↑n:Int))) (g154 y0 n (g174 y0 n (nN [qE (ka (0+y0.i.toNat)),qE (va (0+y0.i.toNat))] (g175 c p y0.e.m y0.e y0.e.x (nN (g173 cm []) (g263 y0.e y0.x.a0.m y0.x.a0.f y0.x.a1.m y0.x.a1.f y0.x.a2.m y0.x.a2.f y0.x.a3.m y0.x.a3.f (g25 y0.x.a4.m y0.x.a4.f (nN ((1,.le 1 1)::(1,.pf (∀ (i:Nat),i < 1->5<=5) (by intros; exact Z _))::g68 c []) (U (preDs c 5 y0.e y0.x) (nA (ΦDs c 5 y0.e y0.x) fun y1=>U (I (Xr.mk y1.e y1.x (i64.wrap (y0.i+O 1)))) (g115 n y0 (g175 c p y1.e.m y1.e y1.e.x (nN (g173 cm []) (g263 y1.e y1.x.a0.m y1.x.a0.f y1.x.a1.m y1.x.a1.f y1.x.a2.m y1.x.a2.f y1.x.a3.m y1.x.a3.f (g25 y1.x.a4.m y1.x.a4.f zu))))))))))))))) (U (Φ y0.e) (g175 c p y0.e.m y0.e y0.e.x zu))))))):=by kernel_rfl
section
variable {c:Cf} {p:Ep} {cm:Nat} {e:Ee} {x x1 x2 x':M5} {n cap k:Nat} {ka va:Nat->Int} {Φ:Ee->Prop} {y:Xr} {w:Xe}
theorem N_ka (hp:zc6 c k n e x) (hy:IRn c k n y) (hl:decide (y.i < (n:Int))=true) (hx:∀ j,j < k->at5 x' j=at5 y.x j) (hw:ΦDs c k y.e x' w) (i:Nat):upto w.e.x.n w.e.x.kl i<=w.e.kc i/\upto w.e.x.n w.e.x.kl i<=upto w.e.x.n w.e.x.kl i:=(R_w hp hy hl hx hw).1.ka i
theorem N_la (hp:zc6 c k n e x) (hy:IRn c k n y) (hl:decide (y.i < (n:Int))=true) (hx:∀ j,j < k->at5 x' j=at5 y.x j) (hw:ΦDs c k y.e x' w) (j:Nat) (hj:j < k) (i:Nat):upto (at5 w.x j).m.n (at5 w.x j).f.ll i<=(at5 w.x j).f.lc i/\upto (at5 w.x j).m.n (at5 w.x j).f.ll i<=upto (at5 w.x j).m.n (at5 w.x j).f.ll i:=((R_w hp hy hl hx hw).2 j hj).la i
theorem N_s (hp:zc6 c k n e x) (hy:IRn c k n y) (hl:decide (y.i < (n:Int))=true) (hx:∀ j,j < k->at5 x' j=at5 y.x j) (hw:ΦDs c k y.e x' w) (h2:∀ j,j < k->at5 x2 j=at5 w.x j):IRn c k n ⟨w.e,x2,i64.wrap (y.i+O 1)⟩:=R_s hp hy hl (R_w hp hy hl hx hw) h2
theorem I_la (hy:IRn c k n y) (j:Nat) (hj:j < k) (i:Nat):upto (at5 y.x j).m.n (at5 y.x j).f.ll i<=(at5 y.x j).f.lc i/\upto (at5 y.x j).m.n (at5 y.x j).f.ll i<=upto (at5 y.x j).m.n (at5 y.x j).f.ll i:=(hy.2.2 j hj).la i
theorem J_la (hp:zc6 c k n e x) (j:Nat) (hj:j < k) (i:Nat):upto (at5 x j).m.n (at5 x j).f.ll i<=(at5 x j).f.lc i/\upto (at5 x j).m.n (at5 x j).f.ll i<=upto (at5 x j).m.n (at5 x j).f.ll i:=(hp.h.2 j hj).la i
theorem vhRn (hΦ:∀ y,okEe 900000 c y->Φ y):
  (zc6 c 2 n e x->zae (vRn c p cm e x n cap ka va 2 (IRn c 2 n) Φ))/\(zc6 c 3 n e x->zae (vRn c p cm e x n cap ka va 3 (IRn c 3 n) Φ))/\
  (zc6 c 4 n e x->zae (vRn c p cm e x n cap ka va 4 (IRn c 4 n) Φ))/\(zc6 c 5 n e x->zae (vRn c p cm e x n cap ka va 5 (IRn c 5 n) Φ)):=by
 refine ⟨fun hp=>zae.pr (vRn2_eq ..) ?_,fun hp=>zae.pr (vRn3_eq ..) ?_,fun hp=>zae.pr (vRn4_eq ..) ?_,fun hp=>zae.pr (vRn5_eq ..) ?_⟩
 all_goals
  have px:∀ {a b:M5} {q:Nat},(q<=5/\(0 < q->a.a0=b.a0)/\(1 < q->a.a1=b.a1)/\(2 < q->a.a2=b.a2)/\(3 < q->a.a3=b.a3)/\(4 < q->a.a4=b.a4))->∀ j,j < q->at5 a j=at5 b j:=fun h j hj=>by
   rcases (show j=0\/j=1\/j=2\/j=3\/j=4 by omega) with rfl | rfl | rfl | rfl | rfl
   ·exact h.2.1 hj
   ·exact h.2.2.1 hj
   ·exact h.2.2.2.1 hj
   ·exact h.2.2.2.2.1 hj
   ·exact h.2.2.2.2.2 hj
  (with_reducible repeat' first | exact zk | refine zo ?_ | refine zn ?_ | refine zm ?_ ?_ | refine zh ?_ | refine nN_h rfl ?_ | refine z9 ?_ ?_ | intro _)
 all_goals first
  | rfl
  | exact .inl rfl
  | exact Z _
  | exact R_0 hp
  | exact okEe.ka hp.h.1 _
  | exact J_la hp 0 (by decide) _
  | exact J_la hp 1 (by decide) _
  | exact J_la hp 2 (by decide) _
  | exact J_la hp 3 (by decide) _
  | exact J_la hp 4 (by decide) _
  | exact R_ix ‹_› ‹_›
  | exact R_in ‹_› ‹_›
  | (rename_i y hy hl _; exact okEe.ka hy.2.1 _)
  | (rename_i y hy hl _; first | exact I_la hy 0 (by decide) _ | exact I_la hy 1 (by decide) _ | exact I_la hy 2 (by decide) _ | exact I_la hy 3 (by decide) _ | exact I_la hy 4 (by decide) _)
  | (rename_i y hy hl; exact R_pre hp hy hl (px (by simp)))
  | exact R_ex
  | (rename_i y hy hl w hw; exact R_mu hp hy hl)
  | (rename_i y hy hl w hw; exact N_s hp hy hl (px (by simp)) hw (px (by simp)))
  | (rename_i y hy hl w hw _; exact N_ka hp hy hl (px (by simp)) hw _)
  | (rename_i y hy hl w hw _; first | exact N_la hp hy hl (px (by simp)) hw 0 (by decide) _ | exact N_la hp hy hl (px (by simp)) hw 1 (by decide) _ | exact N_la hp hy hl (px (by simp)) hw 2 (by decide) _ | exact N_la hp hy hl (px (by simp)) hw 3 (by decide) _ | exact N_la hp hy hl (px (by simp)) hw 4 (by decide) _)
  | (rename_i y hy hl; exact hΦ _ (R_end hp hy))
  | trace_state
end
noncomputable section
abbrev FrM:=Fr
def fMa:FuncId:=62
def fkR (r:Fr):Fk:=⟨fun _=>r.kd,fun _=>1,fun _=>r.qt,fun _=>r.qb,fun _=>r.qr,fun _=>r.qc,fun _=>r.a,fun _=>r.b,fun _=>r.d,fun _=>r.i,fun _=>r.j,fun _=>r.n,fun _=>r.t,fun _=>r.u,fun _=>r.v,fun _=>r.w,fun _=>r.x,fun _=>0,fun _=>0,fun _ _=>0⟩
def maR (r:Fr):Ma:=⟨fkR r,⟨1,1,false,0,0⟩⟩
def frT (t:Nat) (s:St):Nat:=scK (zav (tmK t s) 0 s.H.h)
def lsF (kf:Nat) (h:HL):Nat:=match (find kf h).map zds with
 | some [_,_,_,_,_,_,_,_,_,_,_,_,_,_,_,_,_,.cs k _ _ _ _]=>k
 | _=>0
def psMa (r:Fr):PS:=.one 3 (fun s H=>fN (tupK s) fun km=>fN (scK (zav km 0 H.h)) fun kf=>[km,kf,lsF kf H.h]) (.c (.ptr 0 (.k 0) (.k 0) 0 4)) ((maR r).hl 0 1 2)
def vMa (r:Fr):V:=verF P con0 3 6 fMa [(1000000,.nilCol (frT 2) 17 3 1 [.ci .i64 fun _ _=>0])] .nil [.a (r.cs .nils)] ⟨[],0,fun _=>True⟩ ((psMa r).fin 0)
end
abbrev g156 (k:V):V:=U (∀ (i:Nat),upto 1 (fun (x:Nat)=>0) i<=0/\upto 1 (fun (x:Nat)=>0) i<=0) (nN [(1,.pf (∀ (i e:Nat),e < upto 1 (fun (x:Nat)=>0) i->O 0=O 0) (by intros; rfl))] k)
abbrev g182 (l:LP):LP:=(2,.eq 1 1)::g77 ((1,.eq 1 1)::(1,.le 1 1)::l)
abbrev g183 (k:V):V:=nN [qF 1 (fun (e:Nat)=>e),qF 1 (fun (e:Nat)=>0),qF 1 (fun (e:Nat)=>0)] (U (∀ (i:Nat),0=0\/0=0) k)
abbrev g201 (a0:FrM) (k:V):V:=U (∀ (e:Nat),e < 1->e=0->O 1=O 1) (U (∀ (e:Nat),e < 1->e < [SC.iv IntKind.i64 a0.qt].length) k)
abbrev g229 (a0:FrM) (k:V):V:=U (∀ (e:Nat),e < 1->e < [SC.iv IntKind.i64 a0.kd].length) (U (∀ (e:Nat),e < 1->e=0->a0.kd=a0.kd) k)
abbrev g230 (a0:FrM) (k:V):V:=U (∀ (e:Nat),e < 1->e=0->a0.qt=a0.qt) (U (∀ (e:Nat),e < 1->e < [SC.iv IntKind.i64 a0.qb].length) k)
abbrev g231 (a0:FrM) (k:V):V:=U (∀ (e:Nat),e < 1->e=0->a0.qb=a0.qb) (U (∀ (e:Nat),e < 1->e < [SC.iv IntKind.i64 a0.qr].length) k)
abbrev g232 (a0:FrM) (k:V):V:=U (∀ (e:Nat),e < 1->e=0->a0.qr=a0.qr) (U (∀ (e:Nat),e < 1->e < [SC.iv IntKind.i64 a0.qc].length) k)
abbrev g233 (a0:FrM) (k:V):V:=U (∀ (e:Nat),e < 1->e=0->a0.qc=a0.qc) (U (∀ (e:Nat),e < 1->e < [SC.iv IntKind.i64 a0.a].length) k)
abbrev g236 (a0:FrM) (k:V):V:=U (∀ (e:Nat),e < 1->e=0->a0.a=a0.a) (U (∀ (e:Nat),e < 1->e < [SC.iv IntKind.i64 a0.b].length) k)
abbrev g237 (a0:FrM) (k:V):V:=U (∀ (e:Nat),e < 1->e < [SC.iv IntKind.i64 a0.i].length) (U (∀ (e:Nat),e < 1->e=0->a0.i=a0.i) k)
abbrev g238 (a0:FrM) (k:V):V:=U (∀ (e:Nat),e < 1->e < [SC.iv IntKind.i64 a0.j].length) (U (∀ (e:Nat),e < 1->e=0->a0.j=a0.j) k)
abbrev g239 (a0:FrM) (k:V):V:=U (∀ (e:Nat),e < 1->e < [SC.iv IntKind.i64 a0.n].length) (U (∀ (e:Nat),e < 1->e=0->a0.n=a0.n) k)
abbrev g240 (a0:FrM) (k:V):V:=U (∀ (e:Nat),e < 1->e < [SC.iv IntKind.i64 a0.t].length) (U (∀ (e:Nat),e < 1->e=0->a0.t=a0.t) k)
abbrev g241 (a0:FrM) (k:V):V:=U (∀ (e:Nat),e < 1->e < [SC.iv IntKind.u64 a0.u].length) (U (∀ (e:Nat),e < 1->e=0->a0.u=a0.u) k)
abbrev g242 (a0:FrM) (k:V):V:=U (∀ (e:Nat),e < 1->e < [SC.iv IntKind.u64 a0.v].length) (U (∀ (e:Nat),e < 1->e=0->a0.v=a0.v) k)
abbrev g243 (a0:FrM) (k:V):V:=U (∀ (e:Nat),e < 1->e < [SC.iv IntKind.u64 a0.w].length) (U (∀ (e:Nat),e < 1->e=0->a0.w=a0.w) k)
abbrev g244 (a0:FrM) (k:V):V:=U (∀ (e:Nat),e < 1->e < [SC.iv IntKind.u64 a0.x].length) (U (∀ (e:Nat),e < 1->e=0->a0.x=a0.x) k)
theorem vMa_eq (r:FrM):V.pr .z (vMa r)=
 zj (r.kd == O 22) (U True (nN (g182 []) (g229 r (U (∀ (e:Nat),e < 1->e < 1) (g201 r (g230 r (g231 r (g232 r (g233 r (g236 r (U (∀ (e:Nat),e < 1->e=0->r.b=r.b) (U (∀ (e:Nat),e < 1->e < 1) (U (∀ (e:Nat),e < 1->e=0->Int.negSucc 0=r.d) (g237 r (g238 r (g239 r (g240 r (g241 r (g242 r (g243 r (g244 r (g183 (g156 zu))))))))))))))))))))))) (U True (nN (g182 []) (g229 r (U (∀ (e:Nat),e < 1->e < 1) (g201 r (g230 r (g231 r (g232 r (g233 r (g236 r (U (∀ (e:Nat),e < 1->e=0->r.b=r.b) (U (∀ (e:Nat),e < 1->e < [SC.iv IntKind.i64 r.d].length) (U (∀ (e:Nat),e < 1->e=0->r.d=r.d) (g237 r (g238 r (g239 r (g240 r (g241 r (g242 r (g243 r (g244 r (g183 (g156 zu))))))))))))))))))))))):=by kernel_rfl
theorem vhMa {r:FrM} (h:r.kd≠22):zae (vMa r):=by
 have h2:(r.kd == O 22)=false:=by simpa using h
 refine zae.pr (vMa_eq ..) ?_
 (with_reducible repeat' first | exact zk | refine zo ?_ | refine zn ?_ | refine zm ?_ ?_ | refine zh ?_ | refine nN_h rfl ?_ | refine z9 ?_ ?_ | intro _)
 all_goals first
  | rfl
  | exact .inl rfl
  | assumption
  | (intros; assumption)
  | trivial
  | (exact ⟨by simp [upto],by simp [upto]⟩)
  | (rename_i h3; rw [h2] at h3; cases h3)
  | (rename_i h3 _; rw [h2] at h3; cases h3)
  | (rename_i h3 _ _; rw [h2] at h3; cases h3)
  | (rename_i h3 _ _ _; rw [h2] at h3; cases h3)
  | trace_state
noncomputable section
def cMa:List SV->Hp->Out (SV×Hp):=fun args H=>match args with
 | [.a l]=>match rdFr l with
  | some (r,_)=>useP [] 0 [.a (r.cs .nils)] [] (.need (r.kd≠22) (psMa r).out) args H
  | none=>.bad 494
 | _=>.bad 495
theorem cMa_ok:zab P fMa cMa:=zac fun args H=>by
 unfold cMa
 repeat' split
 all_goals first
  | exact .inl ⟨_,rfl⟩
  | exact .inr ⟨_,_,_,_,_,rfl,zb8 zak.nil fun h=>vhMa h⟩
end
noncomputable section
def postR (c:Cf) (p:Ep) (e:Ee) (x:M5) (n k:Nat):Out (SV×Hp):=.need (zc6 c k n e x) (.any Ee (okEe 900000 c) fun y=>.leaf (.t [],⟨y.hZ c p (12+3 * k) (13+3 * k),14+3 * k,fun _=>True⟩))
def cRn:List SV->Hp->Out (SV×Hp):=fun args H=>match args with
 | [.c (.ptr kx _ _ _ _),.c (.slc kl _ _ _ n cap)]=>fN kx fun kx=>fN kl fun kl=>match rdEn kx H.h,(find kl H.h).map zds with
  | some ⟨c,p,e,x,cm,k,σ⟩,some [ck,cv]=>match colG ck,colG cv with
   | some ka,some va=>match k with
    | 2=>useP (σ++[kl]) 18 (argRn 2 n.v cap.v) (hRn c p cm e x 2 n.v (fun e=>ka e) (fun e=>va e)) (postR c p e x n.v 2) args H
    | 3=>useP (σ++[kl]) 21 (argRn 3 n.v cap.v) (hRn c p cm e x 3 n.v (fun e=>ka e) (fun e=>va e)) (postR c p e x n.v 3) args H
    | 4=>useP (σ++[kl]) 24 (argRn 4 n.v cap.v) (hRn c p cm e x 4 n.v (fun e=>ka e) (fun e=>va e)) (postR c p e x n.v 4) args H
    | 5=>useP (σ++[kl]) 27 (argRn 5 n.v cap.v) (hRn c p cm e x 5 n.v (fun e=>ka e) (fun e=>va e)) (postR c p e x n.v 5) args H
    | _=>.bad 490
   | _,_=>.bad 493
  | _,_=>.bad 491
 | _=>.bad 492
theorem lRn2 {c:Cf} {p:Ep} {cm:Nat} {e:Ee} {x:M5} {n cap:Nat} {ka va:Nat->Int}:zah P fRn (argRn 2 n cap) (hRn c p cm e x 2 n ka va) 18 (postR c p e x n 2):=zad zgf fun h=>(vhRn fun _ h=>h).1 h
theorem lRn3 {c:Cf} {p:Ep} {cm:Nat} {e:Ee} {x:M5} {n cap:Nat} {ka va:Nat->Int}:zah P fRn (argRn 3 n cap) (hRn c p cm e x 3 n ka va) 21 (postR c p e x n 3):=zad zgf fun h=>(vhRn fun _ h=>h).2.1 h
theorem lRn4 {c:Cf} {p:Ep} {cm:Nat} {e:Ee} {x:M5} {n cap:Nat} {ka va:Nat->Int}:zah P fRn (argRn 4 n cap) (hRn c p cm e x 4 n ka va) 24 (postR c p e x n 4):=zad zgf fun h=>(vhRn fun _ h=>h).2.2.1 h
theorem lRn5 {c:Cf} {p:Ep} {cm:Nat} {e:Ee} {x:M5} {n cap:Nat} {ka va:Nat->Int}:zah P fRn (argRn 5 n cap) (hRn c p cm e x 5 n ka va) 27 (postR c p e x n 5):=zad zgf fun h=>(vhRn fun _ h=>h).2.2.2 h
theorem cRn_ok:zab P fRn cRn:=zac fun args H=>by
 unfold cRn
 simp only [fN_eq]
 repeat' split
 all_goals first
  | exact .inl ⟨_,rfl⟩
  | with_reducible exact .inr ⟨_,_,_,_,_,rfl,lRn2⟩
  | with_reducible exact .inr ⟨_,_,_,_,_,rfl,lRn3⟩
  | with_reducible exact .inr ⟨_,_,_,_,_,rfl,lRn4⟩
  | with_reducible exact .inr ⟨_,_,_,_,_,rfl,lRn5⟩
def frW (kd a j:Int):Fr:=⟨kd,0,0,0,0,0,a,0,0,0,j,0,0,0,0,0,0⟩
def wkJ (c:Cf) (j:Nat):Ma:=maR (frW 25 (j:Int) (Int.tmod (j:Int) c.T))
def cl0:Ma:=maR (frW 26 0 0)
def m5W (c:Cf) (k:Nat):M5:=match k with
 | 2=>⟨wkJ c 0,cl0,ma0,ma0,ma0⟩
 | 3=>⟨wkJ c 0,wkJ c 1,cl0,ma0,ma0⟩
 | 4=>⟨wkJ c 0,wkJ c 1,wkJ c 2,cl0,ma0⟩
 | _=>⟨wkJ c 0,wkJ c 1,wkJ c 2,wkJ c 3,cl0⟩
def rk0 (n:Nat):Rk:=⟨n,fun _=>0,fun _=>-1,fun _=>0,fun _=>0,fun _=>-1,fun _=>0,fun _ _=>0,fun _=>false⟩
def mm0:Mm:=⟨fun _=>0,0,0,0,0,0⟩
def ee0 (n ec sc:Nat):Ee:=⟨mm0,0,0,rk0 n,fun _=>0,0,ec,0,0,sc,0,0,0,0⟩
def epN (n rc:Nat):Ep:=⟨n,n,rc,0,0⟩
def nmN (j:Nat):Nat:=11+3 * j
def hlN (x:M5):Nat->Nat->HL
 | 0,_=>[]
 | i+1,j=>(at5 x j).hl (nmN j) (nmN j+1) (nmN j+2)++hlN x i (j+1)
def ptN:Nat->Nat->List SC
 | 0,_=>[]
 | i+1,j=>.ptr (nmN j) (.k 0) (.k 0) 0 4::ptN i (j+1)
def Ee.hN (e:Ee) (c:Cf) (p:Ep) (cm:Nat) (x:M5) (k:Nat):HL:=[(3,e.eng 4 9 k cm 10),(4,(e.rv c p).b 0 1 5 6 8),(5,wRow p.cap p.n e.m),(6,e.x.row 7 e.kc p.rc),(7,e.x.fam e.x.n e.kc),(8,evU e.ne e.nc),(9,.row tPm cm k [.ck (ptN k 0)]),(10,.row 3 e.cs e.ns [.cu])]++hlN x k 0
def ckK (kx:Nat) (h:HL):List Nat:=match (find (scK (zav kx 1 h)) h).map zds with
 | some [.ck l]=>ptL l
 | _=>[]
def lsM (h:HL):List Nat->List Nat
 | []=>[]
 | km::l=>fN (scK (zav km 0 h)) fun kf=>km::kf::lsF kf h::lsM h l
def LSn (s:SV) (H:Hp):List Nat:=fN (tupK s) fun kx=>fN (scK (zav kx 0 H.h)) fun ke=>match ceS ke 11 H.h,ceS ke 19 H.h,ceS ke 20 H.h with
 | some (r1,_,_),some (r4,_,_),some (r5,_,_)=>match kidK r4 H.h with
  | some (f2,_)=>kx::ke::r1::r4::f2::r5::scK (zav kx 1 H.h)::scK (zav kx 3 H.h)::lsM H.h (ckK kx H.h)
  | none=>[]
 | _,_,_=>[]
structure Xn4 where
 cm:Nat
 rc:Nat
 ec:Nat
 sc:Nat
def rdN (s:SV) (H:Hp):Option Xn4:=fN (tupK s) fun kx=>match rdEeK (scK (zav kx 0 H.h)) kx H.h,capK (scK (zav (scK (zav kx 0 H.h)) 19 H.h)) H.h with
 | some (e,cm),some rc=>some ⟨cm,rc,e.nc,e.cs⟩
 | _,_=>none
def selN4 (k:Nat) (s:SV) (H:Hp):Bool:=Nat.beq (ckK (tupK s) H.h).length k
def okN (c:Cf) (k:Nat) (q:Xn4):Prop:=k<=q.cm/\c.T.toNat<=q.rc
def leN (c:Cf) (k:Nat):PS:=.leaf Xn4 (11+3 * k) rdN LSn (okN c k) (fun _=>.c (.ptr 3 (.k 0) (.k 0) 0 8)) (fun q=>(ee0 c.T.toNat q.ec q.sc).hN c (epN (ncN c) q.rc) q.cm (m5W c k) k)
def psN (c:Cf):PS:=.br (decide (c.W=1)) (selN4 2) (leN c 2) (.br (decide (c.W=2)) (selN4 3) (leN c 3) (.br (decide (c.W=3)) (selN4 4) (leN c 4) (leN c 5)))
def conN4:Con:=Con.add 22 conNewR (Con.add fMa cMa con0)
theorem conN4_ok:zak P conN4:=.add conNewR_ok (.add cMa_ok zak.nil)
def n4R (s:St):Nat:=scK (zav (tmK 3 s) 0 s.H.h)
def n4X (s:St):Nat:=scK (zav (n4R s) 19 s.H.h)
def gsN:List (Nat×G):=[(2,.nilCell (tmK 3) 3 3 1 fun _=>[.cu]),(2,.nilCell n4R 20 24 5 fun _=>[.cu,.cu,.cu,.cu,.cu]),(2,.nilCol n4X 5 3 1 [.ci .i64 fun _ _=>0])]
def vN4 (c:Cf):V:=verF P conN4 6 5 fN28 gsN (.unroll [] .nil) [argC c] ⟨hC c,3,fun _=>True⟩ ((psN c).fin 3)
end
abbrev g58 (a0:Cf) (k:V):V:=U (∀ (i:Nat),upto a0.T.toNat (fun (x:Nat)=>0) i<=0/\upto a0.T.toNat (fun (x:Nat)=>0) i<=0) (nN [(1,.pf (∀ (i e:Nat),e < upto a0.T.toNat (fun (x:Nat)=>0) i->O 0=O 0) (by intros; rfl))] k)
abbrev g67 (a0:Cf) (l:LP):LP:=qF a0.T.toNat (fun (e:Nat)=>O 0)::qF a0.T.toNat (fun (e:Nat)=>-O 1)::l
abbrev g3 (l:LP):LP:=qF 1 (fun (e:Nat)=>O 0)::qF 1 (fun (e:Nat)=>O 0)::l
abbrev g71 (l:LP):LP:=g3 (qF 1 (fun (e:Nat)=>O 0)::l)
abbrev g93 (a0:Cf) (k:V):V:=U (ncN a0<=ncN a0) (nN [(1,.pf (∀ (e:Nat),e < ncN a0->O 0=O 0) (by intros; rfl))] k)
abbrev g102 (a0:Cf) (k:V):V:=nN (g71 []) (U (∀ (e:Nat),e < 1->(O 0).tmod a0.T=(↑0:Int).tmod a0.T) k)
abbrev g109 (l:LP):LP:=g3 (g3 l)
abbrev g117 (a0:Cf) (k:V):V:=nN [qF a0.T.toNat (fun (e:Nat)=>false)] (U (∀ (i:Nat),0=0\/0=0) k)
abbrev g124 (k:V):V:=nN (g109 []) (U (∀ (e:Nat),e < 1->O 0=(↑0:Int)) k)
abbrev g138 (a0:Cf) (k:V):V:=U (decide (a0.W=O 1)=false) (U (decide (a0.W=O 2)=false) k)
abbrev g146 (a0:Cf) (k:V):V:=nN (g71 []) (U (∀ (e:Nat),e < 1->(O 1).tmod a0.T=(↑1:Int).tmod a0.T) k)
abbrev g160 (k:V):V:=nN (g109 []) (U (∀ (e:Nat),e < 1->O 1=(↑1:Int)) k)
abbrev g163 (l:LP):LP:=qF 1 (fun (e:Nat)=>O 26)::qF 1 (fun (e:Nat)=>O 1)::l
abbrev g164 (a0:Cf) (k:V):V:=nN [(5,.lt2 0 1 0 1)] (U (a0.T≠O 0) k)
abbrev g171 (l:LP):LP:=(1,.eq 0 0)::(1,.le 0 0)::l
abbrev g177 (a0:Cf) (l:LP):LP:=g67 a0 (qF a0.T.toNat (fun (e:Nat)=>O 0)::l)
abbrev g187 (a0:Cf) (k:V):V:=nN (g71 []) (U (∀ (e:Nat),e < 1->(O 2).tmod a0.T=(↑2:Int).tmod a0.T) k)
abbrev g192 (k:V):V:=nN (g109 []) (U (∀ (e:Nat),e < 1->O 2=(↑2:Int)) k)
abbrev g193 (l:LP):LP:=(1,.neI 26 22)::(1,.lt2 0 1 0 1)::l
abbrev g195 (k:V):V:=g183 (U (∀ (i:Nat),upto 1 (fun (x:Nat)=>0) i<=0/\upto 1 (fun (x:Nat)=>0) i<=upto 1 (fun (x:Nat)=>0) i) (nN [(1,.pf (∀ (i e:Nat),e < upto 1 (fun (x:Nat)=>0) i->O 0=O 0) (by intros; rfl))] k))
abbrev g206 (a0:Cf) (a1 a2:Nat) (k:V):V:=U (decide (a0.W=O 3)=false) (U (En.okN a0 5 (Xn4.mk a1 a2 0 0)) k)
abbrev g209 (a0:Cf) (l:LP):LP:=qF a0.T.toNat (fun (e:Nat)=>e)::qF a0.T.toNat (fun (e:Nat)=>0)::qF a0.T.toNat (fun (e:Nat)=>0)::l
abbrev g212 (k:Nat->V):V:=U (0+1<=9223372036854775807/\(0+1) * 8<=140737488355328) (zd Nat (fun (x:Nat)=>0+1<=x) fun v0=>k v0)
abbrev g213 (k:Nat->V):V:=U (1+1<=9223372036854775807/\(1+1) * 8<=140737488355328) (zd Nat (fun (x:Nat)=>1+1<=x) fun v0=>k v0)
abbrev g214 (k:Nat->V):V:=U (2+1<=9223372036854775807/\(2+1) * 8<=140737488355328) (zd Nat (fun (x:Nat)=>2+1<=x) fun v0=>k v0)
abbrev g215 (k:Nat->V):V:=U (3+1<=9223372036854775807/\(3+1) * 8<=140737488355328) (zd Nat (fun (x:Nat)=>3+1<=x) fun v0=>k v0)
abbrev g216 (k:Nat->V):V:=U (4+1<=9223372036854775807/\(4+1) * 8<=140737488355328) (zd Nat (fun (x:Nat)=>4+1<=x) fun v0=>k v0)
abbrev g217 (k:Nat->V):V:=U (5+1<=9223372036854775807/\(5+1) * 8<=140737488355328) (zd Nat (fun (x:Nat)=>5+1<=x) fun v0=>k v0)
abbrev g223 (k:V):V:=nN (g109 (g3 [])) (g195 k)
abbrev g234 (l:LP):LP:=g182 (qF 1 (fun (e:Nat)=>O 25)::qF 1 (fun (e:Nat)=>O 1)::l)
abbrev g249 (l:LP):LP:=(1,.eqI 25 25)::(5,.eqI 0 0)::l
abbrev g254 (l:LP):LP:=(3,.lt2 0 1 0 1)::(1,.eqI 26 26)::(16,.eqI 0 0)::l
abbrev g260 (l:LP):LP:=(6,.eqI 0 0)::(1,.neI 25 22)::(1,.lt2 0 1 0 1)::l
abbrev g264 (k:V):V:=nN (g109 []) (U (∀ (e:Nat),e < 1->O 3=(↑3:Int)) k)
abbrev g274 (a0:Cf) (k:V):V:=nN (g71 []) (U (∀ (e:Nat),e < 1->(O 3).tmod a0.T=(↑3:Int).tmod a0.T) k)
abbrev g277 (k:V):V:=g223 (nN (g234 []) k)
abbrev g285 (l:LP):LP:=(1,.eqI 0 0)::(2,.eq 0 0)::(4,.eqI 0 0)::l
abbrev g297 (a0:Cf) (l:LP):LP:=(7,.eqI 0 0)::qE a0.T.toNat::l
theorem vN4_eq (c:Cf):V.pr .z (vN4 c)=
 nN (g19 c (g68 c [])) (U (okY c) (nA (fun (x:Nat)=>c.T.toNat<=x) fun y0=>zj (decide (O 0 < c.W)) (g164 c (nN ((1,.eqI 25 25)::(9,.eqI 0 0)::qE ((O 0).tmod c.T)::g260 []) (g212 fun y1=>nN [(2,.lt2 0 1 0 1)] (zj (decide (O 1 < c.W)) (g164 c (nN (g249 ((1,.eqI 1 1)::(3,.eqI 0 0)::qE ((O 1).tmod c.T)::g260 [])) (U (1<=0+1/\y1=y1) (g213 fun y2=>nN [(2,.lt2 0 1 0 1)] (zj (decide (O 2 < c.W)) (g164 c (nN (g249 ((1,.eqI 2 2)::(3,.eqI 0 0)::qE ((O 2).tmod c.T)::g260 [])) (U (2<=1+1/\y2=y2) (g214 fun y3=>nN [(2,.lt2 0 1 0 1)] (zj (decide (O 3 < c.W)) (g164 c (nN (g249 ((1,.eqI 3 3)::(3,.eqI 0 0)::qE ((O 3).tmod c.T)::g260 [])) (U (3<=2+1/\y3=y3) (g215 fun y4=>nN [(2,.lt2 0 1 0 1)] (zj (decide (O 4 < c.W)) (g164 c (nN (g249 ((1,.eqI 4 4)::(3,.eqI 0 0)::qE ((O 4).tmod c.T)::g260 [])) (U (4<=3+1/\y4=y4) (g216 fun y5=>nN [(2,.lt2 0 1 0 1)] (zj (decide (O 5 < c.W)) (g164 c (nN (g249 ((1,.eqI 5 5)::(3,.eqI 0 0)::qE ((O 5).tmod c.T)::g260 [])) (U (5<=4+1/\y5=y5) (g217 fun y6=>nN [(2,.lt2 0 1 0 1)] (V.bad 301))))) (nN (g254 (g193 [])) (U (5<=4+1/\y5=y5) (g217 fun y6=>nN [(2,.lt2 0 1 0 1)] (g138 c (g206 c y6 y0 (U (6=5) (nN (qE y6::g285 (g19 c (qE (ncN c)::qE (ncN c)::g297 c [qE y0,(2,.eq 0 0),qE (ncN c)]))) (g93 c (nN (qE y0::qL c.T.toNat::g177 c (g67 c (g209 c []))) (g117 c (g58 c (nN (g171 [qE y6]) (U (5<=5+1) (nN (g171 (g234 [])) (g124 (g102 c (g277 (g160 (g146 c (g277 (g192 (g187 c (g277 (g264 (g274 c (g223 (nN (g182 []) (U (∀ (e:Nat),e < 1->O 25=O 26) (nN (qF 1 (fun (e:Nat)=>O 1)::g109 []) (U (∀ (e:Nat),e < 1->O 4=O 0) (nN (g71 []) (U (∀ (e:Nat),e < 1->(O 4).tmod c.T=O 0) (g223 zu)))))))))))))))))))))))))))))))))))))) (nN (g254 (g193 [])) (U (4<=3+1/\y4=y4) (g216 fun y5=>nN [(2,.lt2 0 1 0 1)] (g138 c (g206 c y5 y0 (nN (g173 y5 (g285 (g19 c (qE (ncN c)::qE (ncN c)::g297 c [qE y0,(2,.eq 0 0),qE (ncN c)])))) (g93 c (nN (qE y0::qL c.T.toNat::g177 c (g67 c (g209 c []))) (g117 c (g58 c (nN (g171 [qE y5]) (U (5<=4+1) (nN (g171 (g234 [])) (g124 (g102 c (g277 (g160 (g146 c (g277 (g192 (g187 c (g277 (g264 (g274 c (g223 (nN (g182 (g163 (g109 (g109 (g109 (g71 [])))))) (g195 zu)))))))))))))))))))))))))))))))) (nN (g254 (g193 [])) (U (3<=2+1/\y3=y3) (g215 fun y4=>nN [(2,.lt2 0 1 0 1)] (g138 c (U (decide (c.W=O 3)=true) (U (En.okN c 4 (Xn4.mk y4 y0 0 0)) (nN (g179 y4 (g285 (g19 c (qE (ncN c)::qE (ncN c)::g297 c [qE y0,(2,.eq 0 0),qE (ncN c)])))) (g93 c (nN (qE y0::qL c.T.toNat::g177 c (g67 c (g209 c []))) (g117 c (g58 c (nN (g171 [qE y4]) (U (4<=3+1) (nN (g171 (g234 [])) (g124 (g102 c (g277 (g160 (g146 c (g277 (g192 (g187 c (g223 (nN (g182 (g163 (g109 (g109 (g109 (g71 [])))))) (g195 zu)))))))))))))))))))))))))))))) (nN (g254 (g193 [])) (U (2<=1+1/\y2=y2) (g214 fun y3=>nN [(2,.lt2 0 1 0 1)] (U (decide (c.W=O 1)=false) (U (decide (c.W=O 2)=true) (U (En.okN c 3 (Xn4.mk y3 y0 0 0)) (nN (g186 y3 (g285 (g19 c (qE (ncN c)::qE (ncN c)::g297 c [qE y0,(2,.eq 0 0),qE (ncN c)])))) (g93 c (nN (qE y0::qL c.T.toNat::g177 c (g67 c (g209 c []))) (g117 c (g58 c (nN (g171 [qE y3]) (U (3<=2+1) (nN (g171 (g234 [])) (g124 (g102 c (g277 (g160 (g146 c (g223 (nN (g182 (g163 (g109 (g109 (g109 (g71 [])))))) (g195 zu))))))))))))))))))))))))))) (nN (g254 (g193 [])) (U (1<=0+1/\y1=y1) (g213 fun y2=>nN [(2,.lt2 0 1 0 1)] (U (decide (c.W=O 1)=true) (U (En.okN c 2 (Xn4.mk y2 y0 0 0)) (nN (g191 y2 (g285 (g19 c (qE (ncN c)::qE (ncN c)::g297 c [qE y0,(2,.eq 0 0),qE (ncN c)])))) (g93 c (nN (qE y0::qL c.T.toNat::g177 c (g67 c (g209 c []))) (g117 c (g58 c (nN (g171 [qE y2]) (U (2<=1+1) (nN (g171 (g234 [])) (g124 (g102 c (g223 (nN (g182 (g163 (g109 (g109 (g109 (g71 [])))))) (g195 zu)))))))))))))))))))))) (nN (g254 (g193 [])) (g212 fun y1=>nN [(2,.lt2 0 1 0 1)] (g138 c (g206 c y1 y0 (V.bad 410))))))):=by kernel_rfl
theorem vhN4 {c:Cf} (h:okY c) (hW:c.W<=4):zae (vN4 c):=by
 have hW1:=h.1
 have hT:=h.2.2.2.1
 refine zae.pr (vN4_eq ..) ?_
 (with_reducible repeat' first | exact zk | refine zo ?_ | refine zn ?_ | refine zm ?_ ?_ | refine zh ?_ | refine nN_h rfl ?_ | refine z9 ?_ ?_ | intro _)
 all_goals first
  | rfl
  | exact .inl rfl
  | exact Z _
  | exact h
  | exact ⟨_,Z _⟩
  | exact ⟨Z _,rfl⟩
  | (constructor<;>decide)
  | (refine ⟨?_,?_⟩<;>assumption)
  | ((unfold upto; constructor)<;>(split<;>exact Z _))
  | (refine ⟨?_,?_⟩<;>(simp [upto]; done))
  | (simp only [zz,decide_eq_true_eq,decide_eq_false_iff_not] at *; omega)
  | (exfalso; simp only [zz,decide_eq_true_eq,decide_eq_false_iff_not] at *; omega)
  | trace_state
noncomputable section
def cN4:List SV->Hp->Out (SV×Hp):=zew fun c=>.need (okY c/\c.W<=4) (psN c).out
theorem cN4_ok:zab P fN28 cN4:=zct fun c=>zb8 conN4_ok fun h=>vhN4 h.1 h.2
end
noncomputable section
def eS (c:Cf) (v:Ev):Blk:=.own 47 26 ((cfL 12 13 v.d++layL c++[.ptr 6 (.k 0) (.k 0) 0 6,.ptr 8 (.k 0) (.k 0) 0 2,slK 9 7 v.x.n v.a.r,slK 11 5 0 v.a.e]).map some)
def hEvS (c:Cf) (v:Ev):HL:=[(5,eS c v),(6,pmB 7 v.n v.a.c v.m),(7,wRow v.a.c v.n v.m),(8,clkB v.now v.dr),(9,v.x.row 10 v.a.k v.a.r),(10,v.x.fam v.x.n v.a.k),(11,evB 0 v.a.e)]++hOwn 12 v.d ++
 [(15,(eR c v).b 0 1 16 17 19),(16,wRow v.b.c v.n v.m),(17,v.x.row 18 v.b.k v.b.r),(18,v.x.fam v.x.n v.b.k),(19,evB 0 v.b.e)]
def svEvS:SV:=.t [.c (.ptr 5 (.k 0) (.k 0) 0 26),.c (.ptr 15 (.k 0) (.k 0) 0 21),.c (.kb true)]
def laMm (t:Nat) (I:XIm->Prop) (μ:XIm->Nat) (s:St):Option (LA XIm):=match pmBs 11 s,rmBs 10 s with
 | some p,some r=>some ⟨[(envM 11,true),(envC 11,true),(tmK 10,true),(renC 10,true)],fun x=>p x.m++r x.m,[t],fun x=>[iv x.i],
  fun s=>match tmI t s,rdMm s.H.h (envM 11 s) with | some i,some y=>some ⟨i,y.m⟩ | _,_=>none,I,μ⟩
 | _,_=>none
def clkK (s:St):Nat:=scK (zav (tmK 11 s) 23 s.H.h)
structure XTk where
 i:Int
 now:Int
def laTk (I:Int->XTk->Prop) (s:St):Option (LA XTk):=match ceI (clkK s) 1 s.H.h,ceI (tmK 10 s) 17 s.H.h with
 | some dr,some tn=>some ⟨[(clkK,true)],fun x=>[clkB x.now dr],[15],fun x=>[iv x.i],
  fun s=>match tmI 15 s,ceI (clkK s) 0 s.H.h with | some i,some n=>some ⟨i,n⟩ | _,_=>none,I tn,fun x=>(tn - x.i).toNat⟩
 | _,_=>none
def conEvS:Con:=Con.add fN28 cN4 (Con.add fRn cRn (Con.add 22 conNewR (Con.add 23 conNewNB (Con.add fRA cRA (Con.add fDi cDi (Con.add fCp cCp (Con.add fSm cSm (conU con0))))))))
theorem conEvS_ok:zak P conEvS:=.add cN4_ok (.add cRn_ok (.add conNewR_ok (.add conNewNB_ok (.add cRA_ok (.add cDi_ok (.add cCp_ok (.add cSm_ok (conU_ok zak.nil))))))))
end
def IE1 (c:Cf) (x:XIm):Prop:=0<=x.i/\x.i<=(ncN c:Int)/\okMw x.i x.m
def IE2 (x:XIm):Prop:=0<=x.i/\x.i<=14/\okMw (200000+x.i) x.m
def IE3 (tn:Int) (x:XTk):Prop:=0<=x.i/\x.i<=tn/\x.now=x.i
section
variable {c d:Cf} {y:Ee} {x:XIm} {t:XTk} {k nc:Nat} {q:Xn4} {m:Mm} {r:Nat×(Nat->Nat)}
theorem nc_le (hY:okY c):ncN c<=131072:=by
 have:=nc_bd hY
 unfold ncN
 omega
theorem E_cm (h:okN c k q):k<=k/\k<=q.cm:=⟨Z _,h.1⟩
theorem E_up {n i:Nat}:upto n (fun _=>0) i<=0/\upto n (fun _=>0) i<=upto n (fun _=>0) i:=⟨by simp [upto],Z _⟩
theorem ee_ok {ec sc b:Nat}:okEe b c (ee0 c.T.toNat ec sc):=⟨fun _=>⟨Int.le_refl 0,(by decide:(0:Int)<=18446744073709551615)⟩,rfl,fun _=>zf _,fun _ _=>zf _,zf _,zf _,zf _,Int.le_refl _,zp _⟩
theorem ma_ok {r:Fr} (h4:r.kd≠24) (hi:r.kd=26->0<=r.i) (hu:r.u=0/\r.v=0/\r.w=0/\r.x=0/\r.qc=0):okMa 1 c (maR r):=by
 obtain ⟨h1,h2,h3,h5,h6⟩:=hu
 have z:wd 0:=z_w
 refine ⟨fun _=>zf _,fun _ _=>zf _,fun _=>?_,fun _=>?_,fun _=>?_,fun _=>?_,fun _=>?_,fun _=>⟨fun s hs=>⟨⟨Z 1,fun e he=>?_,fun e he=>?_,fun e he=>?_⟩,⟨fun h=>?_,fun h=>?_⟩⟩,Z 1⟩⟩
 ·show wd r.u
  rw [h1]; exact z
 ·show wd r.v
  rw [h2]; exact z
 ·show wd r.w
  rw [h3]; exact z
 ·show wd r.x
  rw [h5]; exact z
 ·show r.qc<=_
  rw [h6]; decide
 ·exact absurd he (by show ¬ e+1 < 1; omega)
 ·exact absurd he (by show ¬ e+1 < 1; omega)
 ·exact absurd he (by show ¬ e+1 < 1; omega)
 ·rw [hs] at h
  exact absurd h h4
 ·rw [hs] at h ⊢
  exact hi h
theorem wk_ok {j:Nat}:okMa 1 c (wkJ c j):=ma_ok (by show (25:Int)≠24; decide) (fun h=>absurd h (by show ¬ (25:Int)=26; decide)) ⟨rfl,rfl,rfl,rfl,rfl⟩
theorem cl_ok:okMa 1 c cl0:=ma_ok (by show (26:Int)≠24; decide) (fun h=>Int.le_refl 0) ⟨rfl,rfl,rfl,rfl,rfl⟩
theorem m5_ok (h2:2<=k) (h5:k<=5):okMs 1 c k (m5W c k):=by
 have hk:k=2\/k=3\/k=4\/k=5:=by omega
 intro j hj
 have hj':j=0\/j=1\/j=2\/j=3\/j=4:=by omega
 rcases hk with rfl | rfl | rfl | rfl<;>rcases hj' with rfl | rfl | rfl | rfl | rfl<;>first | exact wk_ok | exact cl_ok | omega
theorem E_pre (hY:okY c) (hC:okC c) (hU:c.nU<=900000) {n ec sc:Nat} (hn:n<=30000) (h2:2<=k) (h5:k<=5):zc6 c k n (ee0 c.T.toNat ec sc) (m5W c k):=⟨hY,hC,hU,hn,ee_ok,m5_ok h2 h5⟩
theorem E1_0:IE1 c ⟨O 0,⟨fun _=>O 0,O 0,O 0,O 0,O 0,O 0⟩⟩:=⟨Int.le_refl _,zp _,fun e=>⟨Int.le_refl _,show (0:Int)<=18446744073709551615 by decide⟩,Int.le_refl _,Int.le_refl _⟩
theorem E1_ix (h:IE1 c x) (hl:decide (x.i < (ncN c:Int))=true):O 0<=x.i/\x.i < (ncN c:Int):=⟨h.1,of_decide_eq_true hl⟩
theorem E1_in (h:IE1 c x) (hl:decide (x.i < (ncN c:Int))=true):0 < 1/\0+x.i.toNat < ncN c:=by
 have:=of_decide_eq_true hl
 have:=h.1
 omega
theorem E1_s (hY:okY c) (he:okEe 900000 c y) (h:IE1 c x) (hl:decide (x.i < (ncN c:Int))=true):IE1 c ⟨i64.wrap (x.i+O 1),x.m.acc (ncN c) (O 2) x.i (y.m.g (0+x.i.toNat))⟩:=by
 have h1:=of_decide_eq_true hl
 have h0:=h.1
 have hN:=nc_le hY
 have e1:i64.wrap (x.i+O 1)=x.i+1:=w64 (by simp only [zz]; omega)
 refine ⟨?_,?_,?_⟩
 ·show 0<=i64.wrap _
  rw [e1]; omega
 ·show i64.wrap _<=_
  rw [e1]; omega
 ·show okMw (i64.wrap _) _
  rw [e1]
  exact okMw_acc h.2.2 (by omega) (he.m _)
theorem E1_mu (hY:okY c) (h:IE1 c x) (hl:decide (x.i < (ncN c:Int))=true):ncN c - (i64.wrap (x.i+O 1)).toNat < ncN c - x.i.toNat:=by
 have h1:=of_decide_eq_true hl
 have h0:=h.1
 have hN:=nc_le hY
 rw [show i64.wrap (x.i+O 1)=x.i+1 from w64 (by simp only [zz]; omega)]
 omega
theorem E2_0 (hY:okY c) (h:IE1 c x):IE2 ⟨O 0,x.m⟩:=by
 have hN:=nc_le hY
 have:=h.2.1
 exact ⟨Int.le_refl _,(by decide:(0:Int)<=14),h.2.2.le (by show x.i<=200000+0; omega)⟩
theorem E2_w (h:IE2 x):i64.wrap (x.i+O 1)=x.i+1:=by
 have h0:=h.1
 have h1:=h.2.1
 exact w64 (by simp only [zz]; omega)
theorem E2_ix (h:IE2 x) (hl:decide (i64.wrap (x.i+O 1) < (nc:Int))=true):O 0<=x.i/\x.i < (nc:Int):=by
 have h1:=of_decide_eq_true hl
 rw [E2_w h] at h1
 have h0:=h.1
 simp only [zz]
 omega
theorem E2_in (h:IE2 x) (hl:decide (i64.wrap (x.i+O 1) < (nc:Int))=true):0 < 1/\0+x.i.toNat < nc:=by
 have h1:=E2_ix h hl
 have h0:=h.1
 omega
theorem E2_iy (h:IE2 x) (hl:decide (i64.wrap (x.i+O 1) < (nc:Int))=true):O 0<=i64.wrap (x.i+O 1)/\i64.wrap (x.i+O 1) < (nc:Int):=by
 have h0:=h.1
 refine ⟨?_,of_decide_eq_true hl⟩
 rw [E2_w h]
 simp only [zz]
 omega
theorem E2_iz (h:IE2 x) (hl:decide (i64.wrap (x.i+O 1) < (nc:Int))=true):0 < 1/\0+(i64.wrap (x.i+O 1)).toNat < nc:=by
 have h1:=E2_iy h hl
 simp only [zz] at h1 ⊢
 omega
theorem E2_ok (hY:okY c) (h:IE2 x):ncN c<=1000000/\okMw (O 1000000000) x.m:=by
 have hN:=nc_le hY
 have:=h.2.1
 exact ⟨by omega,h.2.2.le (by simp only [zz]; omega)⟩
theorem E2_ex (h:IE2 x):∃ m,okMw (x.m.ct+O 1) m:=⟨x.m,h.2.2.now.le (by simp only [zz]; omega)⟩
theorem E2_s (h:IE2 x) (hl:decide (x.i < O 12)=true) (hm:okMw (x.m.ct+O 1) m):IE2 ⟨i64.wrap (x.i+O 2),m⟩:=by
 have h1:=of_decide_eq_true hl
 have h0:=h.1
 have h2:=h.2.2.2.2
 simp only [zz] at h1
 have e1:i64.wrap (x.i+O 2)=x.i+2:=w64 (by simp only [zz]; omega)
 refine ⟨?_,?_,?_⟩
 ·show 0<=i64.wrap _
  rw [e1]; omega
 ·show i64.wrap _<=_
  rw [e1]; omega
 ·show okMw (200000+i64.wrap _) _
  rw [e1]
  exact hm.le (by simp only [zz]; omega)
theorem E2_mu (h:IE2 x) (hl:decide (x.i < O 12)=true):14 - (i64.wrap (x.i+O 2)).toNat < 14 - x.i.toNat:=by
 have h1:=of_decide_eq_true hl
 have h0:=h.1
 simp only [zz] at h1
 rw [show i64.wrap (x.i+O 2)=x.i+2 from w64 (by simp only [zz]; omega)]
 omega
theorem E3_0 (he:okEe 900000 c y):IE3 y.now ⟨O 0,O 0⟩:=⟨Int.le_refl _,he.t0,rfl⟩
theorem E3_s (he:okEe 900000 c y) (h:IE3 y.now t) (hl:decide (t.i < y.now)=true):IE3 y.now ⟨i64.wrap (t.i+O 1),i64.wrap (t.now+O 1)⟩:=by
 have h1:=of_decide_eq_true hl
 have h0:=h.1
 have h3:=he.t1
 have e1:i64.wrap (t.i+O 1)=t.i+1:=w64 (by simp only [zz]; omega)
 refine ⟨?_,?_,?_⟩
 ·show 0<=i64.wrap _
  rw [e1]; omega
 ·show i64.wrap _<=_
  rw [e1]; omega
 ·show i64.wrap _=i64.wrap _
  rw [h.2.2]
theorem E3_mu (he:okEe 900000 c y) (h:IE3 y.now t) (hl:decide (t.i < y.now)=true):(y.now - i64.wrap (t.i+O 1)).toNat < (y.now - t.i).toNat:=by
 have h1:=of_decide_eq_true hl
 have h0:=h.1
 have h3:=he.t1
 rw [show i64.wrap (t.i+O 1)=t.i+1 from w64 (by simp only [zz]; omega)]
 omega
theorem E3_end (h:IE3 y.now t) (hl:decide (t.i < y.now)=false):y.now=t.now:=by
 have h1:=of_decide_eq_false hl
 have h2:=h.2
 omega
theorem E_kl (he:okEe 900000 c y) {i:Nat} (hi:i < y.x.n):y.x.kl i<=upto y.x.n y.x.kl i/\y.x.kl i<=y.kc i:=⟨by unfold upto; rw [if_pos hi]; exact Z _,he.kc i hi⟩
theorem E_kq (hr:y.x.n<=r.1/\∀ e,e < y.x.n->y.x.kl e<=r.2 e) {i:Nat} (hi:i < y.x.n):y.x.kl i<=upto y.x.n y.x.kl i/\y.x.kl i<=r.2 i:=⟨by unfold upto; rw [if_pos hi]; exact Z _,hr.2 i hi⟩
theorem E_rk (hY:okY c) (he:okEe 900000 c y):okRk y.x:=by
 have h1:=hY.2.2.2.1
 have h2:=he.n
 exact ⟨by omega,fun e=>by have:=he.kl e; omega⟩
theorem E_q:∃ r:Nat×(Nat->Nat),y.x.n<=r.1/\∀ e,e < y.x.n->y.x.kl e<=r.2 e:=⟨(_,_),Z _,fun _ _=>Z _⟩
theorem E_rc (hN:okN c k q) (he:okEe 900000 c y):y.x.n<=y.x.n/\y.x.n<=q.rc:=⟨Z _,by rw [he.n]; exact hN.2⟩
theorem E_up2 (hr:y.x.n<=r.1/\∀ e,e < y.x.n->y.x.kl e<=r.2 e) (i:Nat):upto y.x.n y.x.kl i<=r.2 i/\upto y.x.n y.x.kl i<=upto y.x.n y.x.kl i:=up_d (Z _) hr.2 i
theorem E_gd {w:Nat} (hd:IsCl c d/\c.T.toNat<=w) (i:Nat):gd d.nP d.lenP i<=gd d.nP d.FC i/\gd d.nP d.lenP i<=gd d.nP d.lenP i:=by
 obtain ⟨⟨FC,rc,cu,hcl,hd'⟩,hrec⟩:=hd
 subst hd'
 exact ⟨Vc.gd_le hcl.1 i,Z _⟩
theorem E_ev {w:Nat} {now dr:Int} {a b:Nat×(Nat->Nat)} (hY:okY c) (hd:IsCl c d/\c.T.toNat<=w) (he:okEe 900000 c y) (h:IE2 x) (ha:y.x.n<=a.1/\∀ e,e < y.x.n->y.x.kl e<=a.2 e) (hb:y.x.n<=b.1/\∀ e,e < y.x.n->y.x.kl e<=b.2 e):
  okEv c ⟨⟨c.W,c.L,c.C,c.T,c.D,c.H,c.B,c.A,c.P,d.nP,d.rc,d.nU,d.cu,d.lenP,d.FC,d.iO,d.iA,d.iB,d.uP,d.uL,d.uD⟩,ncN c,x.m,y.x,now,dr,⟨ncN c,a.1,a.2,0⟩,⟨ncN c,b.1,b.2,0⟩⟩:=by
 obtain ⟨⟨FC,rc,cu,hcl,hd'⟩,hrec⟩:=hd
 have:=h.2.1
 exact ⟨⟨FC,rc,cu,hcl,by rw [hd']; rfl⟩,rfl,he.n,E_rk hY he,ha.2,hb.2,Z _,Z _,ha.1,hb.1,h.2.2.le (by omega)⟩
end
noncomputable section
def preEv (c:Cf) (n:Nat):Prop:=errE c=0/\okC c/\c.W<=4/\c.nU<=900000/\n<=30000
end
end Go.Proofs.YtfkdlkidflgalaaGreat.En
