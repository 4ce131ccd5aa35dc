/- Places in the reference's layout, whether they are there or not: what is asked. -/
import Derived.Test.YtdcllkdadffnaaaGreatMMdLo
import Derived.Test.YtdcllkdadffnaaaGreatMMdRk
import Derived.Test.YtdcllkdadffnaaaGreatMW
import Derived.Test.YtdcllkdadffnaaaGreatMV
import Derived.Test.YtdcllkdadffnaaaGreatMEn
import Derived.Test.YtdcllkdadffnaaaGreatMMdRmD
import Derived.Test.YtdcllkdadffnaaaGreatMMd
import Derived.Test.YtdcllkdadffnaaaGreatMMd
set_option maxHeartbeats 64000000
set_option linter.unusedVariables false
set_option linter.unusedSimpArgs false
set_option maxRecDepth 100000
open Go.IntKind (i64 u64)
open Int renaming ofNat -> O, ofNat_eq_natCast -> zq
open Nat renaming le_refl -> Z, zero_le -> zg
open Go.Proofs.YtdcllkdadffnaaaGreat.Sx.V renaming need -> U, br -> zj, ok -> zu, any -> z9
namespace Go.Proofs.YtdcllkdadffnaaaGreat.En
open Go Go.RowKit Sx Cn Dc Ck Vc Md
noncomputable section
def vIxT (f i n w:Int):V:=verF P con0 3 4 fIx [] .nil [iv f,iv i,iv n,iv w] ⟨[],0,fun _=>True⟩ (finI .i64 fun r=>r=atM i n f w)
end
end Go.Proofs.YtdcllkdadffnaaaGreat.En
/- Places: the conditions, printed by program. -/
namespace Go.Proofs.YtdcllkdadffnaaaGreat.En
open Go Go.RowKit Sx Cn Dc Ck Vc Md
theorem vIxT_eq (f i n w:Int):V.pr .z (vIxT f i n w)=
 zj (decide (i < O 0)) (U (Int.negSucc 0=atM i n f w) (nN [qE (Int.negSucc 0)] (zu))) (zj (decide (i >= n)) (U (Int.negSucc 0=atM i n f w) (nN [qE (Int.negSucc 0)] (zu))) (U (i64.wrap (f+i64.wrap (i * w))=atM i n f w) (nN [qE (i64.wrap (f+i64.wrap (i * w)))] zu))):=by kernel_rfl
end Go.Proofs.YtdcllkdadffnaaaGreat.En
/- Places, keys: said as they are: the contracts. -/
namespace Go.Proofs.YtdcllkdadffnaaaGreat.En
open Go Go.RowKit Sx Cn Dc Ck Vc Md
theorem vhIxT {i n f w:Int} (h:zdc i n f w):zae (vIxT f i n w):=by
 refine zae.pr (vIxT_eq ..) ?_
 by_cases hi:i < 0\/n<=i
 ·have e:atM i n f w=-1:=by unfold atM; rw [if_pos hi]
  rw [e]
  (with_reducible repeat' first | exact V.okI | refine V.brT ?_ | refine V.brF ?_ | refine V.brI ?_ ?_ | refine V.anyI ?_ | refine nN_h rfl ?_ | refine V.needI ?_ ?_ | intro _)
  all_goals (simp only [decide_eq_true_eq,decide_eq_false_iff_not,zq,Bool.not_eq_true',Bool.not_eq_false',ge_iff_le,gt_iff_lt,Bool.and_eq_true,Bool.or_eq_true,Bool.not_eq_true,Bool.and_eq_false_iff] at *)
  all_goals first | omega | rfl | trace_state
 ·have e:atM i n f w=f+i * w:=by unfold atM; rw [if_neg hi]
  obtain ⟨h1,h2,h3⟩:=h
  have h1:=h1 (by omega) (by omega)
  rw [e,w64 (show _ by omega:-9223372036854775808<=i * w/\i * w<=9223372036854775807),w64 (by omega)]
  (with_reducible repeat' first | exact V.okI | refine V.brT ?_ | refine V.brF ?_ | refine V.brI ?_ ?_ | refine V.anyI ?_ | refine nN_h rfl ?_ | refine V.needI ?_ ?_ | intro _)
  all_goals (simp only [decide_eq_true_eq,decide_eq_false_iff_not,zq,Bool.not_eq_true',Bool.not_eq_false',ge_iff_le,gt_iff_lt,Bool.and_eq_true,Bool.or_eq_true,Bool.not_eq_true,Bool.and_eq_false_iff] at *)
  all_goals first | omega | rfl | trace_state
noncomputable section
def outX (k:IntKind) (p:Prop) (x:Int):Out (SV×Hp):=.need p (.leaf (.c (.iv k x),⟨[],0,fun _=>True⟩))
theorem bare {f:FuncId} {args:List SV} {k:IntKind} {p:Prop} {x:Int} (h:zah P f args [] 0 (.need p (.any Int (fun r=>r=x) fun r=>.leaf (.c (.iv k r),⟨[],0,fun _=>True⟩)))):zah P f args [] 0 (outX k p x):=
 h.mono fun K hK=>⟨hK.1,⟨_,rfl⟩,fun r hr=>by subst hr; exact hK.2⟩
def xAt:List SV->Hp->Out (SV×Hp):=fun args H=>match nums args with
 | some [i,n,f,w]=>useP [] 0 [iv i,iv n,iv f,iv w] [] (outX .i64 (zdc i n f w) (atM i n f w)) args H
 | _=>.bad 484
theorem xAt_ok:zab P fAt xAt:=zac fun args H=>by
 unfold xAt
 repeat' split
 all_goals first | exact .inl ⟨_,rfl⟩ | exact .inr ⟨_,_,_,_,_,rfl,bare (zad zaj.nil fun h=>vhAtT h)⟩
def xIx:List SV->Hp->Out (SV×Hp):=fun args H=>match nums args with
 | some [f,i,n,w]=>useP [] 0 [iv f,iv i,iv n,iv w] [] (outX .i64 (zdc i n f w) (atM i n f w)) args H
 | _=>.bad 484
theorem xIx_ok:zab P fIx xIx:=zac fun args H=>by
 unfold xIx
 repeat' split
 all_goals first | exact .inl ⟨_,rfl⟩ | exact .inr ⟨_,_,_,_,_,rfl,bare (zad zaj.nil fun h=>vhIxT h)⟩
def outXP (d a t:Int):Out (SV×Hp):=.leaf (.t [.c (uw (pkW d a t)),.c (.bv (pkB d a t))],⟨[],0,fun _=>True⟩)
theorem bareP {f:FuncId} {d a t:Int} (h:zah P f [iv d,iv a,iv t] [] 0 (.need True (.any (Int×Bool) (fun p=>p=(pkW d a t,pkB d a t)) fun p=>.leaf (.t [.c (uw p.1),.c (.bv p.2)],⟨[],0,fun _=>True⟩)))):zah P f [iv d,iv a,iv t] [] 0 (outXP d a t):=
 h.mono fun K hK=>⟨trivial,⟨_,rfl⟩,fun r hr=>by subst hr; exact hK⟩
def xPk:List SV->Hp->Out (SV×Hp):=fun args H=>match nums args with
 | some [d,a,t]=>useP [] 0 [iv d,iv a,iv t] [] (outXP d a t) args H
 | _=>.bad 484
theorem xPk_ok:zab P fPack xPk:=zac fun args H=>by
 unfold xPk
 repeat' split
 all_goals first | exact .inl ⟨_,rfl⟩ | exact .inr ⟨_,_,_,_,_,rfl,bareP (zad zaj.nil fun _=>vhPack)⟩
theorem xRP_ok:zab P fRP xPk:=zac fun args H=>by
 unfold xPk
 repeat' split
 all_goals first | exact .inl ⟨_,rfl⟩ | exact .inr ⟨_,_,_,_,_,rfl,bareP (zad conPk_ok fun _=>vhRP)⟩
def xRU:List SV->Hp->Out (SV×Hp):=fun args H=>match nums args with
 | some [k]=>useP [] 0 [.c (uw k)] [] (.need (0<=k/\k<=18446744073709551615) (.any (Int×Int) (fun _=>True) fun p=>.leaf (.t [.c (i6 p.1),.c (i6 p.2),.c (i6 (tkW k))],⟨[],0,fun _=>True⟩))) args H
 | _=>.bad 484
theorem xRU_ok:zab P fRU xRU:=zac fun args H=>by
 unfold xRU
 repeat' split
 all_goals first | exact .inl ⟨_,rfl⟩ | exact .inr ⟨_,_,_,_,_,rfl,(zad conPk_ok fun h=>vhRU h).mono fun K hK=>⟨hK.1,⟨(0,0,_),rfl⟩,fun p hp=>by have:=hK.2.2 (p.1,p.2.1) trivial; rw [<- hp] at this; exact this⟩⟩
end
end Go.Proofs.YtdcllkdadffnaaaGreat.En
/- Insert of the injector, step by step with the reference's: what is asked. -/
namespace Go.Proofs.YtdcllkdadffnaaaGreat.En
open Go Go.RowKit Sx Cn Dc Ck Vc Md
noncomputable section
def fMt:FuncId:=9
def tFr:TypeId:=47
def tMa:TypeId:=94
def z6:SC:=.ki .i64 0
def zU:SC:=.ki .u64 0
def frF (kind:Int) (ln a b d i j n t u v w x:SC):List Col:=[ck1 (.ki .i64 kind),ck1 ln,ck1 z6,ck1 z6,ck1 z6,ck1 z6,ck1 a,ck1 b,ck1 d,ck1 i,ck1 j,ck1 n,ck1 t,ck1 u,ck1 v,ck1 w,ck1 x,ck1 .nils]
def maB (k n cap:Nat):Blk:=.own tMa 4 ([.slc k (.k 0) (.k 0) 18 (.k n) (.s cap),.kb false,.ki .i64 0,.ki .i64 0].map some)
def ekK (t:Nat) (s:St):Nat:=scK (zay (tmK t s) 23 s.H.h)
def frKi (t:Nat) (s:St):Nat:=scK (zay (tmK t s) 0 s.H.h)
def tmV (t:Nat) (s:St):Option SV:=(s.tmps[t]?).join
structure XIj where
 s:Int
 m:Mm
 now:Int
 ln:Int
 n:Int
 i:Int
 k:Int
 x:Int
def conIj:Con:=Con.add fRA cRA (Con.add fDi cDi (Con.add fSm cSm (Con.add fAt xAt (Con.add fIx xIx (Con.add fPack xPk (Con.add fRP xPk (conU con0)))))))
theorem conIj_ok:zaj P conIj:=.add cRA_ok (.add cDi_ok (.add cSm_ok (.add xAt_ok (.add xIx_ok (.add xPk_ok (.add xRP_ok (conU_ok zaj.nil)))))))
def argMt (x:SC) (ln lc:Nat):List SV:=[.c (.ptr 0 (.k 0) (.k 0) 0 26),.c (.ptr 7 (.k 0) (.k 0) 0 21),.c x,.c (.ptr 15 (.k 0) (.k 0) 0 4),.c (slK 17 1 ln lc),.c (.ki .i64 200)]
end
end Go.Proofs.YtdcllkdadffnaaaGreat.En
/- Remove of the injector, step by step with the reference's: what is asked. -/
namespace Go.Proofs.YtdcllkdadffnaaaGreat.En
open Go Go.RowKit Sx Cn Dc Ck Vc Md
noncomputable section
def eVo (c:Cf) (v:Ev):Blk:=.own 64 26 ([c.W,c.L,c.C,c.T,c.D,c.H,c.B,c.A,c.P].map (fun x=>some (i6 x))++[none,none]++(layL c).map some++[some (.ptr 1 (.k 0) (.k 0) 0 6),some (.ptr 3 (.k 0) (.k 0) 0 2),some (slK 4 7 v.x.n v.a.r),some (slK 6 5 0 v.a.e)])
def hMo (c:Cf) (v:Ev) (mb:Blk) (fc:List Col) (cf:Nat) (ln:Nat) (g:Nat->Int):HL:=[(0,eVo c v),(1,pmB 2 v.n v.a.c v.m),(2,wRow v.a.c v.n v.m),(3,clkB v.now v.dr),(4,v.x.rowV 5 v.a.k),(5,v.x.famV),(6,evB 0 v.a.e),
 (7,(eR c v).b 12 13 8 9 11),(8,wRow v.b.c v.n v.m),(9,v.x.rowV 10 v.b.k),(10,v.x.famV),(11,evB 0 v.b.e),(12,dum 1),(13,dum 3),(14,mb),(15,maB 16 1 cf),(16,.row tFr cf 1 fc),(17,.view 1 (fun _=>ln) [.ci .i64 fun _ e=>g e])]
structure XRj where
 s:Int
 m:Mm
 now:Int
 ln:Int
 n:Int
 i:Int
 c:Int
 x:Int
 y:Int
 z:Int
 l:El
 na:Nat
 nb:Nat
def remB (w:Int) (ln n i c x y z:SC):Blk:=.own 100 11 ([.kb false,.ki .i64 0,.ki .i64 0,i6 w,ln,n,i,c,x,y,z].map some)
def remX:SC:=.ifc 96 14 (.k 0) (.k 0) 0 11
def remF (w:Int) (ln n i c x y z:SC):List Col:=frF 11 ln (i6 w) z6 z6 i c n z6 x y z zU
def renE (t:Nat) (s:St):Nat:=scK (zay (tmK t s) 20 s.H.h)
def evR (cap:Nat) (l:El):Blk:=.row 155 cap l.n l.v.cols
def rdRj (s:St):Option XRj:=fN (tmK 2 s) fun kx=>match tmI 13 s,rdMm s.H.h (envM 0 s),ceI (ekK 0 s) 0 s.H.h,ceI kx 4 s.H.h,ceI kx 5 s.H.h,ceI kx 6 s.H.h,ceI kx 7 s.H.h,ceI kx 8 s.H.h,ceI kx 9 s.H.h,ceI kx 10 s.H.h,rdEl 0 s,ceS (tmK 1 s) 20 s.H.h with
 | some q,some y,some now,some l,some n,some i,some c,some a,some b,some z,some (e,na),some (_,_,nb)=>some ⟨q,y.m,now,l,n,i,c,a,b,z,e,na,nb⟩
 | _,_,_,_,_,_,_,_,_,_,_,_=>none
def paRj:List ((St->Nat)×Bool):=[(envM 0,true),(envC 0,true),(tmK 1,true),(renC 1,true),(ekK 0,true),(tmK 2,false),(tmK 3,true),(frKi 3,true),(tmK 0,true),(envE 0,false),(renE 1,false)]
def blRj (w:Int) (s:St):Option ((SC->XRj->List Blk)×SV):=match pmBs 0 s,rmBs 1 s,find (ekK 0 s) s.H.h,find (tmK 3 s) s.H.h,find (frKi 3 s) s.H.h,tmV 2 s,find (tmK 0 s) s.H.h with
 | some p,some r,some (.own tk sk (_::ck)),some bm,some (.row tf cf nf _),some x2,some (.own t0 s0 c0)=>fN (envE 0 s) fun ke=>fN (renE 1 s) fun kr=>some (
   fun ln x=>p x.m++(match r x.m with
    | [.own te se cs,b]=>[.own te se ((cs.set 17 (some (i6 x.now))).set 20 (some (.slc kr (.k 0) (.k 0) 5 (.s x.l.n) (.s x.nb)))),b]
    | l=>l)++[.own tk sk (some (i6 x.now)::ck),remB w ln (i6 x.n) (i6 x.i) (i6 x.c) (uw x.x) (uw x.y) (uw x.z),bm,.row tf cf nf (remF w ln (i6 x.n) (i6 x.i) (i6 x.c) (uw x.x) (uw x.y) (uw x.z)),
     .own t0 s0 (c0.set 25 (some (.slc ke (.k 0) (.k 0) 5 (.s x.l.n) (.s x.na)))),evR x.na x.l,evR x.nb x.l],x2)
 | _,_,_,_,_,_,_=>none
def laRj (w:Int) (I:Nat×XRj->Prop) (s:St):Option (LA (Nat×XRj)):=match blRj w s with
 | some (b,x2)=>some ⟨paRj,fun x=>b (.ki .i64 (O (x.1+1))) x.2,[13,2],fun x=>[iv x.2.s,x2],fun s=>match rdRj s with | some x=>some ((x.ln - 1).toNat,x) | none=>none,I,fun x=>(200 - x.2.s).toNat⟩
 | none=>none
def laRc (w:Int) (J:Int->XRj->Prop) (s:St):Option (LA XRj):=match tmI 13 s,blRj w s with
 | some q,some (b,x2)=>some ⟨paRj,fun x=>b (i6 x.ln) x,[2],fun x=>[x2],rdRj,J q,fun x=>0⟩
 | _,_=>none
def conRj:Con:=Con.add fRU xRU conIj
theorem conRj_ok:zaj P conRj:=.add xRU_ok conIj_ok
def avRj (w:Int) (I:Nat×XRj->Prop) (J1 J2:Int->XRj->Prop):AV:=.loopS 8 XRj [.renT 2,.ren (envE 0),.ren (renE 1)] (laRj w I) (.cut 16 XRj (laRc w J1) .nil (.cut 18 XRj (laRc w J2) .nil (.cut 21 XRj (laRc w J2) .nil .nil))) .nil
def vRj (c:Cf) (v:Ev) (w:Int) (cf ln lc:Nat) (g:Nat->Int) (I:Nat×XRj->Prop) (J1 J2:Int->XRj->Prop):V:=verF P conRj 6 8 fMt [] (avRj w I J1 J2) (argMt remX ln lc) ⟨hMo c v (remB w (.ki .i64 1) z6 z6 z6 zU zU zU) (remF w (.ki .i64 1) z6 z6 z6 zU zU zU) cf ln g,18,fun _=>True⟩ (yesF 18)
def vRjO (j:Nat) (c:Cf) (v:Ev) (w:Int) (cf ln lc:Nat) (g:Nat->Int) (I:Nat×XRj->Prop) (J1 J2:Int->XRj->Prop):V:=verO 8 1 j P conRj 6 8 fMt [] (avRj w I J1 J2) (argMt remX ln lc) ⟨hMo c v (remB w (.ki .i64 1) z6 z6 z6 zU zU zU) (remF w (.ki .i64 1) z6 z6 z6 zU zU zU) cf ln g,18,fun _=>True⟩ (yesF 18)
end
end Go.Proofs.YtdcllkdadffnaaaGreat.En
/- Match for Insert of the injector: the contract's answer. -/
namespace Go.Proofs.YtdcllkdadffnaaaGreat.En
open Go Go.RowKit Sx Cn Dc Ck Vc Md
def okMi (c:Cf) (v:Ev):Prop:=c.H<=1000000/\4<=v.n/\v.n<=1000000/\okRk v.x/\v.n<=v.a.c/\v.n<=v.b.c/\okMw 2000000 v.m
noncomputable section
def rdMt (ke kr:Nat) (h:HL):Option (Cf×Ev×List Nat×List Nat):=fN (scK (zay ke 22 h)) fun km=>fN (scK (zay ke 23 h)) fun kk=>match ceS ke 24 h,ceS ke 25 h,rdRv kr h with
 | some (e4,xn,xr),some (e5,_,er),some (r,[_,r1,kP,kU,r4,r5])=>match rdMm h km,rdRk e4 xn h,kidK r4 h with
  | some y,some (x,f1,c1),some (f2,c2)=>some (r.c,⟨r.c,y.len.v,y.m,x,r.now,r.dr,⟨y.cap.v,xr,c1,er⟩,⟨r.cap,r.rc,c2,r.nc⟩⟩,[ke,km,y.kc,kk,e4,f1,e5,kr,r1,r4,f2,r5],[kP,kU])
  | _,_,_=>none
 | _,_,_=>none
def frAB (k:Nat) (h:HL):Option (Int×Int×Int×Nat):=match find k h with
 | some (.row _ c _ (.ck [.ki _ n]::_::_::_::_::_::.ck [a]::.ck [b]::_))=>match numC a,numC b with
  | some x,some y=>some (n,x,y,c)
  | _,_=>none
 | _=>none
end
end Go.Proofs.YtdcllkdadffnaaaGreat.En
/- Scripts of bytes; what is asked. -/
namespace Go.Proofs.YtdcllkdadffnaaaGreat.En
open Go Go.RowKit Sx Cn Dc Ck Vc Md
structure Sc where
 n:Nat
 cap:Nat
 ka:Nat->Int
 va:Nat->Int
structure Xsc where
 i:Int
 l:Sc
noncomputable section
def Sc.row (l:Sc):Blk:=.row 103 l.cap l.n [.ci .i64 fun _ e=>l.ka e,.ci .i64 fun _ e=>l.va e]
def rdSc (k:Nat) (h:HL):Option Sc:=match find k h with
 | some (.row _ cap n [.ci _ f,.ci _ g])=>some ⟨n,cap,fun e=>f 0 e,fun e=>g 0 e⟩
 | _=>none
def laSc (I:Xsc->Prop) (len:Nat) (s:St):Option (LA Xsc):=fN (tmK 3 s) fun k3=>
 some ⟨[(tmK 3,false)],fun q=>[q.l.row],[4,3],fun q=>[iv q.i,.c (slK k3 2 q.l.n q.l.cap)],fun s=>match tmI 4 s,rdSc (tmK 3 s) s.H.h with | some i,some l=>some ⟨i,l⟩ | _,_=>none,I,fun q=>len+1 - q.i.toNat⟩
def fDe:FuncId:=25
def vDe (len cap:Nat) (g:Nat->Int) (I:Xsc->Prop) (Φ:Sc->Prop):V:=verF P con0 6 8 fDe [] (.loop Xsc [.nilTmp 3 103 2 [.ci .i64 fun _ _=>0,.ci .i64 fun _ _=>0]] (laSc I len) .nil .nil) [.c (slK 0 1 len cap)] ⟨[(0,ints .u8 len g)],1,fun _=>True⟩
 (finV (X:=Sc) 1 2 (fun s H=>rdSc (tupK s) H.h) (fun s _=>[tupK s]) Φ (fun l=>.c (slK 1 2 l.n l.cap)) (fun l=>[(1,l.row)]))
def okDe (l:Sc):Prop:=l.n<=l.cap/\l.n<=65536
def cDe:List SV->Hp->Out (SV×Hp):=fun args H=>match args with
 | [.c (.slc kb _ _ _ len cap)]=>match rowFn H.h kb 0 with
  | some g=>useP [kb] 1 [.c (slK 0 1 len.v cap.v)] [(0,ints .u8 len.v g)] (.need (len.v<=1000000) (.any Sc okDe fun l=>.leaf (.c (slK 1 2 l.n l.cap),⟨[(1,l.row)],2,fun _=>True⟩))) args H
  | _=>.bad 420
 | _=>.bad 421
def fSc:FuncId:=7
def conSc:Con:=Con.add fDe cDe con0
def vSc (len cap:Nat) (g:Nat->Int) (m:Int) (Φ:Sc->Prop):V:=verF P conSc 6 8 fSc [] .nil [.c (slK 0 1 len cap),iv m] ⟨[(0,ints .u8 len g)],1,fun _=>True⟩
 (finV (X:=Sc) 1 2 (fun s H=>match s,rdSc (tupK s) H.h with | .c (.slc _ _ _ _ n _),some l=>some ⟨n.v,l.cap,l.ka,l.va⟩ | _,_=>none) (fun s _=>[tupK s]) Φ (fun l=>.c (slK 1 2 l.n l.cap)) (fun l=>[(1,l.row)]))
end
end Go.Proofs.YtdcllkdadffnaaaGreat.En
/- Scripts of bytes: the conditions, printed by program. -/
namespace Go.Proofs.YtdcllkdadffnaaaGreat.En
open Go Go.RowKit Sx Cn Dc Ck Vc Md
abbrev ni67 (a0:Sc) (a1:Nat->Int) (a2:Xsc) (k:V):V:=U (a0.n+1<=a0.n+1) (nN [qF (a0.n+1) (fun (e:Nat)=>if 0=0/\e=a0.n then (i64.wrap (a1 (0+a2.i.toNat))).tmod (O 4) else a0.ka e)] k)
abbrev ni75 (a0:Xsc->Prop) (a1:Xsc) (a2:Sc) (a3:Nat) (a4:Nat->Int) (a5:Nat) (k:V):V:=U (a0 (Xsc.mk (i64.wrap (a1.i+O 2)) (Sc.mk (a2.n+1) a3 (fun (e:Nat)=>if 0=0/\e=a2.n then (i64.wrap (a4 (0+a1.i.toNat))).tmod (O 4) else a2.ka e) fun (e:Nat)=>if 0=0/\e=a2.n then O 0 else a2.va e))) (U (a5+1 - (i64.wrap (a1.i+O 2)).toNat < a5+1 - a1.i.toNat) k)
abbrev ni107 (a0:Sc) (k:Nat->V):V:=U (a0.n<=a0.n/\a0.cap=a0.cap) (U (a0.n+1<=9223372036854775807/\(a0.n+1) * 16<=140737488355328) (z9 Nat (fun (x_1:Nat)=>a0.n+1<=x_1) fun v0=>k v0))
abbrev nis2 (y0:Xsc) (I:Xsc->Prop) (g:Nat->Int) (len:Nat):V:=nN [(2,.lt 0 1)] (ni107 y0.l fun y1=>ni75 I y0 y0.l y1 g len (nN [qE (i64.wrap (y0.i+O 2)),qE (y0.l.n+1),qE y1,qE y1] (ni67 y0.l g y0 (nN [qF (y0.l.n+1) (fun (e:Nat)=>if 0=0/\e=y0.l.n then O 0 else y0.l.va e)] zu))))
abbrev ni10 (l:LP):LP:=qF 0 (fun (e:Nat)=>O 0)::qF 0 (fun (e:Nat)=>O 0)::l
abbrev ni74 (l:LP):LP:=(1,.le 0 0)::ni10 l
theorem vDe_eq (len cap:Nat) (g:Nat->Int) (I:Xsc->Prop) (Φ:Sc->Prop):V.pr .z (vDe len cap g I Φ)=
 U (I (Xsc.mk (O 0) (Sc.mk 0 0 (fun (e:Nat)=>O 0) fun (e:Nat)=>O 0))) (nN ((1,.eqI 0 0)::(3,.eq 0 0)::ni74 []) (z9 Xsc I fun y0=>zj (decide (i64.wrap (y0.i+O 1) < (↑len:Int))) (zj (decide ((↑y0.l.n:Int) < O 65536)) (U (O 0<=y0.i/\y0.i < (↑len:Int)) (U (0 < 1/\0+y0.i.toNat < len) (U (0 < 1/\0+y0.i.toNat < len) (nN [(1,.neI 4 0)] (U (O 0<=i64.wrap (y0.i+O 1)/\i64.wrap (y0.i+O 1) < (↑len:Int)) (U (0 < 1/\0+(i64.wrap (y0.i+O 1)).toNat < len) (U (0 < 1/\0+(i64.wrap (y0.i+O 1)).toNat < len) (zj ((i64.wrap (g (0+y0.i.toNat))).tmod (O 4) == O 1) (nis2 y0 I g len) (zj ((i64.wrap (g (0+y0.i.toNat))).tmod (O 4) == O 3) (nis2 y0 I g len) (nN [(2,.lt 0 1)] (ni107 y0.l fun y1=>U (I (Xsc.mk (i64.wrap (y0.i+O 2)) (Sc.mk (y0.l.n+1) y1 (fun (e:Nat)=>if 0=0/\e=y0.l.n then (i64.wrap (g (0+y0.i.toNat))).tmod (O 4) else y0.l.ka e) fun (e:Nat)=>if 0=0/\e=y0.l.n then i64.wrap (g (0+(i64.wrap (y0.i+O 1)).toNat)) else y0.l.va e))) (U (len+1 - (i64.wrap (y0.i+O 2)).toNat < len+1 - y0.i.toNat) (nN [qE (i64.wrap (y0.i+O 2)),qE (y0.l.n+1),qE y1,qE y1] (ni67 y0.l g y0 (nN [qF (y0.l.n+1) (fun (e:Nat)=>if 0=0/\e=y0.l.n then i64.wrap (g (0+(i64.wrap (y0.i+O 1)).toNat)) else y0.l.va e)] zu))))))))))))))) (U (Φ y0.l) (nN [qE y0.l.n,qE y0.l.cap,qE y0.l.cap,qL y0.l.n,qF y0.l.n y0.l.ka,qF y0.l.n y0.l.va] zu))) (U (Φ y0.l) (nN [qE y0.l.n,qE y0.l.cap,qE y0.l.cap,qL y0.l.n,qF y0.l.n y0.l.ka,qF y0.l.n y0.l.va] zu)))):=by kernel_rfl
abbrev ni27 (a0:Nat) (l:LP):LP:=qE a0::(1,.le 1 1)::l
theorem vSc_eq (len cap:Nat) (g:Nat->Int) (m:Int) (Φ:Sc->Prop):V.pr .z (vSc len cap g m Φ)=
 nN (qE len::ni27 cap [(1,.pf (∀ (i:Nat),i < 1->len<=len) (by intros; exact Z _)),(1,.pf (∀ (i e:Nat),i < 1/\e < len->g e=g e) (by intros; rfl))]) (U (len<=1000000) (nA okDe fun y0=>zj (decide ((↑y0.n:Int) > m)) (U (O 0<=O 0/\O 0<=m/\m<=(↑y0.cap:Int)) (U (Φ { y0 with n:=m.toNat }) (nN [qE m.toNat,qE y0.cap,qE y0.cap] (U (m.toNat<=y0.n) (nN [qF m.toNat y0.ka,qF m.toNat y0.va] zu))))) (U (Φ y0) (nN [qE y0.n,qE y0.cap,qE y0.cap,qL y0.n,qF y0.n y0.ka,qF y0.n y0.va] zu)))):=by kernel_rfl
end Go.Proofs.YtdcllkdadffnaaaGreat.En
/- Scripts of bytes: the contracts. -/
namespace Go.Proofs.YtdcllkdadffnaaaGreat.En
open Go Go.RowKit Sx Cn Dc Ck Vc Md
def ISc (len:Nat) (x:Xsc):Prop:=(0<=x.i/\x.i<=(len:Int)+1)/\x.l.n<=x.l.cap/\x.l.n<=65536
section
variable {len:Nat} {x:Xsc}
theorem sc_w1 (hl:len<=1000000) (h:ISc len x):i64.wrap (x.i+O 1)=x.i+1:=by
 have:=h.1
 exact w64 (by simp only [zq]; omega)
theorem sc_w2 (hl:len<=1000000) (h:ISc len x):i64.wrap (x.i+O 2)=x.i+2:=by
 have:=h.1
 exact w64 (by simp only [zq]; omega)
theorem sc_ix (hl:len<=1000000) (h:ISc len x) (hc:decide (i64.wrap (x.i+O 1) < (len:Int))=true):(O 0<=x.i/\x.i < (len:Int))/\(0 < 1/\0+x.i.toNat < len)/\(O 0<=i64.wrap (x.i+O 1)/\i64.wrap (x.i+O 1) < (len:Int))/\(0 < 1/\0+(i64.wrap (x.i+O 1)).toNat < len)/\len+1 - (i64.wrap (x.i+O 2)).toNat < len+1 - x.i.toNat:=by
 have h1:=of_decide_eq_true hc
 have h2:=h.1
 rw [sc_w2 hl h]
 rw [sc_w1 hl h] at h1 ⊢
 simp only [zq]
 omega
theorem sc_mx (h:ISc len x):x.l.n+1<=9223372036854775807/\(x.l.n+1) * 16<=140737488355328:=by
 have:=h.2
 omega
theorem sc_s (hl:len<=1000000) (h:ISc len x) (hc:decide (i64.wrap (x.i+O 1) < (len:Int))=true) (hn:decide ((x.l.n:Int) < O 65536)=true) {k:Nat} (hk:x.l.n+1<=k) {f g:Nat->Int}:ISc len ⟨i64.wrap (x.i+O 2),⟨x.l.n+1,k,f,g⟩⟩:=by
 have h1:=of_decide_eq_true hc
 have h3:=of_decide_eq_true hn
 have h2:=h.1
 rw [sc_w1 hl h] at h1
 simp only [zq] at h3
 refine ⟨⟨?_,?_⟩,hk,?_⟩
 ·show 0<=i64.wrap _
  rw [sc_w2 hl h]; omega
 ·show i64.wrap _<=_
  rw [sc_w2 hl h]; omega
 ·show x.l.n+1<=65536
  omega
end
theorem vhDe {len cap:Nat} {g:Nat->Int} (hl:len<=1000000):zae (vDe len cap g (ISc len) okDe):=by
 refine zae.pr (vDe_eq ..) ?_
 (with_reducible repeat' first | exact V.okI | refine V.brT ?_ | refine V.brF ?_ | refine V.brI ?_ ?_ | refine V.anyI ?_ | refine nN_h rfl ?_ | refine V.needI ?_ ?_ | intro _)
 all_goals first
  | rfl
  | assumption
  | exact Z _
  | exact ⟨Z _,rfl⟩
  | exact ⟨⟨Int.le_refl _,by show (0:Int)<=(len:Int)+1; omega⟩,Z _,zg _⟩
  | exact sc_mx ‹_›
  | (rename_i x hx hc hn; exact (sc_ix hl hx hc).1)
  | (rename_i x hx hc hn; exact (sc_ix hl hx hc).2.1)
  | (rename_i x hx hc hn; exact (sc_ix hl hx hc).2.2.1)
  | (rename_i x hx hc hn; exact (sc_ix hl hx hc).2.2.2.1)
  | (rename_i x hx hc hn _ y hy; exact (sc_ix hl hx hc).2.2.2.2)
  | (rename_i x hx hc hn _ _ y hy; exact (sc_ix hl hx hc).2.2.2.2)
  | (rename_i x hx hc hn _ y hy; exact sc_s hl hx hc hn hy)
  | (rename_i x hx hc hn _ _ y hy; exact sc_s hl hx hc hn hy)
  | exact And.right (by assumption:ISc _ _)
  | trace_state
theorem cDe_ok:zab P fDe cDe:=zac fun args H=>by
 unfold cDe
 repeat' split
 all_goals first | exact .inl ⟨_,rfl⟩ | exact .inr ⟨_,_,_,_,_,rfl,zad zaj.nil fun h=>vhDe h⟩
def okSc (m:Int) (l:Sc):Prop:=l.n<=l.cap/\(l.n:Int)<=m
theorem vhSc {len cap:Nat} {g:Nat->Int} {m:Int} (hl:len<=1000000) (hm:0<=m):zae (vSc len cap g m (okSc m)):=by
  refine zae.pr (vSc_eq ..) ?_
  (with_reducible repeat' first | exact V.okI | refine V.brT ?_ | refine V.brF ?_ | refine V.brI ?_ ?_ | refine V.anyI ?_ | refine nN_h rfl ?_ | refine V.needI ?_ ?_ | intro _)
  all_goals first
    | rfl
    | exact hl
    | exact Z _
    | exact ⟨⟨0,0,fun _=>0,fun _=>0⟩,Z _,zg _⟩
    | (rename_i x hx hc
       have h1:=of_decide_eq_true hc
       have h2:=hx.1
       first
         | (simp only [zq]; omega)
         | (show m.toNat<=x.cap/\(m.toNat:Int)<=m; omega)
         | omega)
    | (rename_i x hx hc
       have h1:=of_decide_eq_false hc
       exact ⟨hx.1,by show (x.n:Int)<=m; omega⟩)
    | trace_state
noncomputable section
theorem conSc_ok:zaj P conSc:=.add cDe_ok zaj.nil
def cSc:List SV->Hp->Out (SV×Hp):=fun args H=>match args with
 | [.c (.slc kb _ _ _ len cap),.c cm]=>match rowFn H.h kb 0,numC cm with
  | some g,some m=>useP [kb] 1 [.c (slK 0 1 len.v cap.v),iv m] [(0,ints .u8 len.v g)] (.need (len.v<=1000000/\0<=m) (.any Sc (okSc m) fun l=>.leaf (.c (slK 1 2 l.n l.cap),⟨[(1,l.row)],2,fun _=>True⟩))) args H
  | _,_=>.bad 420
 | _=>.bad 421
theorem cSc_ok:zab P fSc cSc:=zac fun args H=>by
 unfold cSc
 repeat' split
 all_goals first | exact .inl ⟨_,rfl⟩ | exact .inr ⟨_,_,_,_,_,rfl,zad conSc_ok fun h=>vhSc h.1 h.2⟩
end
end Go.Proofs.YtdcllkdadffnaaaGreat.En
/- Remove, step by step: the conditions, printed by program. -/
namespace Go.Proofs.YtdcllkdadffnaaaGreat.En
open Go Go.RowKit Sx Cn Dc Ck Vc Md
abbrev ni41 (a0:Nat->Int) (a1:XRj) (l:LP):LP:=qE (i64.wrap ((a0 (0+a1.s.toNat)).tdiv (O 3)))::qE (i64.wrap ((a0 (0+a1.s.toNat)).tdiv (O 7)))::l
abbrev ni22 (a0:XRj) (l:LP):LP:=qE a0.i::qE a0.c::l
abbrev ni7 (a0:Cf) (l:LP):LP:=qE a0.W::qE a0.L::qE a0.C::qE a0.T::qE a0.D::qE a0.H::l
abbrev ni13 (a0:Cf) (l:LP):LP:=ni7 a0 (qE a0.B::qE a0.A::qE a0.P::l)
abbrev ni28 (a0:Cf) (l:LP):LP:=ni13 a0 (ni7 a0 (qE (lS a0)::qE (lE a0)::qE (lB a0)::qE (lQ a0)::qE (lT a0)::l))
abbrev ni20 (a0:XRj) (l:LP):LP:=qE a0.x::qE a0.y::l
abbrev ni21 (a0:XRj) (l:LP):LP:=ni20 a0 (qE a0.z::l)
abbrev ni37 (a0:XRj) (l:LP):LP:=qE a0.n::ni21 a0 l
abbrev ni42 (a0:XRj) (a1:Cf) (l:LP):LP:=ni22 a0 (ni37 a0 (ni28 a1 l))
abbrev ni6 (a0:El) (a1:Evs) (l:LP):LP:=qL a0.n::qF a0.n a1.k::qF a0.n a1.w::qF a0.n a1.t::qF a0.n a1.o::qF a0.n a1.l::l
abbrev ni25 (a0:Rk) (a1:Rm) (l:LP):LP:=qE a0.n::qE a1.r::l
abbrev ni26 (a0:Rk) (a1:Rm) (a2:El) (l:LP):LP:=ni25 a0 a1 (qE a2.n::l)
abbrev ni38 (a0:Rk) (a1:Rm) (a2:El) (a3:XRj) (a4:Evs) (l:LP):LP:=ni26 a0 a1 a2 (qE a3.na::qE a3.na::ni6 a2 a4 (qE a3.nb::l))
abbrev ni39 (a0:Rk) (a1:Rm) (a2:El) (a3:XRj) (a4:Evs) (l:LP):LP:=ni38 a0 a1 a2 a3 a4 (ni6 a2 a4 l)
abbrev ni46 (a0:XRj) (a1:Cf) (a2:Rk) (a3:Rm) (a4:El) (a5:Evs) (l:LP):LP:=ni42 a0 a1 (ni39 a2 a3 a4 a0 a5 l)
abbrev ni50 (a0:XRj) (a1:Ev) (l:LP):LP:=qE (i64.wrap (a0.now+O 1))::qE a1.dr::l
abbrev ni14 (a0:Ev) (a1:Rm) (a2:Mm) (l:LP):LP:=qE a0.n::qE a1.c::qE a2.lk::qE a2.lc::qE a2.lo::qE a2.ln::qE a2.ct::l
abbrev ni17 (a0:Rm) (a1:Ev) (a2:Mm) (l:LP):LP:=qE a0.c::qL a1.n::qF a1.n a2.g::l
abbrev ni18 (a0:Ev) (a1:Rm) (a2:Mm) (l:LP):LP:=ni14 a0 a1 a2 (ni17 a1 a0 a2 l)
abbrev ni24 (a0:Cf) (l:LP):LP:=ni13 a0 (qE a0.nP::qE a0.rc::qE a0.nU::qE a0.cu::l)
abbrev ni33 (a0:Ev) (a1:Rm) (a2:Mm) (a3:Cf) (l:LP):LP:=ni18 a0 a1 a2 (ni24 a3 l)
abbrev ni54 (a0:Int->XRj->Prop) (a1 a2:XRj) (a3:Ev) (a4:Rm) (a5:Mm) (a6:Cf) (k:V):V:=U (a0 a1.s { a2 with s:=a1.s,now:=i64.wrap (a2.now+O 1) }) (nN (ni33 a3 a4 a5 a6 []) k)
abbrev ni66 (a0:Rk) (a1:Rm) (a2:El) (a3:XRj) (l:LP):LP:=ni26 a0 a1 a2 (qE a3.nb::l)
abbrev ni43 (a0:Nat) (l:LP):LP:=qE a0::ni27 a0 l
abbrev ni31 (a0:XRj) (l:LP):LP:=ni22 a0 (ni21 a0 l)
abbrev ni44 (a0:XRj) (l:LP):LP:=qE a0.n::ni31 a0 l
abbrev ni77 (a0:Int) (a1:XRj) (a2:Nat) (l:LP):LP:=qE a0::qE a1.ln::ni44 a1 (ni43 a2 (qE a1.ln::qE a0::l))
abbrev ni78 (a0:Int) (a1:XRj) (a2:Nat) (a3:Cf) (a4:Rk) (a5:Rm) (a6:El) (a7:Evs) (l:LP):LP:=ni77 a0 a1 a2 (ni46 a1 a3 a4 a5 a6 a7 l)
abbrev ni16 (a0:XRj) (a1:Ev) (l:LP):LP:=qE a0.now::qE a1.dr::l
abbrev ni32 (a0:Ev) (a1:Rm) (a2:Mm) (a3:XRj) (a4:Rk) (a5:El) (l:LP):LP:=ni14 a0 a1 a2 (ni16 a3 a0 (ni26 a4 a1 a5 (qE a3.nb::ni17 a1 a0 a2 l)))
abbrev ni34 (a0:Ev) (a1:Rm) (a2:Mm) (a3:Cf) (a4:Rm) (a5:XRj) (a6:Rk) (a7:El) (l:LP):LP:=ni33 a0 a1 a2 a3 (ni32 a0 a4 a2 a5 a6 a7 (ni16 a5 a0 l))
abbrev ni79 (a0:Int->XRj->Prop) (a1 a2:XRj) (a3:Ev) (a4:Rm) (a5:Mm) (a6:Cf) (a7:Rm) (a8:Rk) (a9:El) (a10:Int) (a11:Nat) (a12:Evs) (k:V):V:=U (a0 a1.s { a2 with s:=a1.s }) (nN (ni34 a3 a4 a5 a6 a7 a2 a8 a9 (ni78 a10 a2 a11 a6 a8 a4 a9 a12 [])) k)
abbrev ni80 (a0:Ev) (a1:Mm) (a2:Int->XRj->Prop) (a3 a4:XRj) (k:Mm->V):V:=U (a0.n<=1000000/\okMw (O 1000000000) a1) (nA (okMw (a1.ct+O 1)) fun v0=>U (a2 a3.s { a4 with s:=a3.s,m:=v0 }) (k v0))
abbrev ni23 (a0:XRj) (a1:Nat) (k:V):V:=U (O 0<=a0.s/\a0.s < (↑a1:Int)) (U (0 < 1/\0+a0.s.toNat < a1) (U (0 < 1/\0+a0.s.toNat < a1) k))
abbrev ni82 (a0:XRj) (a1:Nat) (k:V):V:=ni23 a0 a1 (nN [(1,.neI 3 0)] k)
abbrev ni3 (l:LP):LP:=(1,.le 0 0)::(1,.pf (∀ (i:Nat),i < 0->0<=0) (by intros; exact Z _))::l
abbrev ni83 (a0:Ev) (a1:Rm) (a2:Mm) (a3:XRj) (a4:Rk) (a5:El) (k:V):V:=nN (ni32 a0 a1 a2 a3 a4 a5 (ni3 (ni3 [(1,.le 0 1)]))) (U (∀ (i:Nat),i < 0->0<=a4.n) (nN [(1,.le 0 1)] (U (0<=a5.n/\0<=a3.nb) k)))
abbrev ni111 (a0:XRj) (a1:Nat) (k:V):V:=ni23 a0 a1 (nN [(1,.neI 13 0)] k)
abbrev ni116 (a0:XRj) (a1:Nat) (k:V):V:=ni82 a0 a1 (ni23 a0 a1 (nN [(1,.neI 7 0)] k))
abbrev ni119 (a0:XRj) (a1:Nat) (k:V):V:=U (a0.ln=O ((a0.ln - O 1).toNat+1)) (nN (qE a0.n::ni31 a0 (qE a1::ni27 a1 [])) (U (a0.ln=O ((a0.ln - O 1).toNat+1)) k))
abbrev ni87 (a0:XRj) (a1:Cf) (a2:Rk) (a3:Rm) (a4:El) (a5:Evs) (k:Bool->V):V:=nN (ni42 a0 a1 (ni38 a2 a3 a4 a0 a5 (ni6 a4 a5 []))) (z9 Bool (fun (x:Bool)=>True) fun v0=>k v0)
abbrev ni132 (a0:Int->XRj->Prop) (a1:XRj) (a2:Ev) (a3:Rm) (a4:Cf) (a5:Rm) (a6:Rk) (a7:Int) (a8:Nat) (k:XRj->Bool->V):V:=z9 XRj (a0 a1.s) fun v0=>nN (ni34 a2 a3 v0.m a4 a5 v0 a6 v0.l (ni77 a7 v0 a8 [])) (ni87 v0 a4 a6 a3 v0.l v0.l.v fun v1=>k v0 v1)
abbrev ni134 (a0:Ev) (a1:Rm) (a2:Mm) (a3:Cf) (a4:Rm) (a5:XRj) (a6:Rk) (a7:El) (a8:Int) (a9:Nat) (a10:Evs) (l:LP):LP:=ni34 a0 a1 a2 a3 a4 a5 a6 a7 (ni78 a8 a5 a9 a3 a6 a1 a7 a10 l)
abbrev ni135 (a0:Nat×XRj->Prop) (a1 a2:XRj) (a3:Ev) (a4:Rm) (a5:Mm) (a6:Cf) (a7:Rm) (a8:Rk) (a9:El) (k:V):V:=U (a0 ((a1.ln - O 1).toNat,{ a1 with s:=i64.wrap (a2.s+O 1) })) (U ((O 200 - i64.wrap (a2.s+O 1)).toNat < (O 200 - a2.s).toNat) (nN (qE (i64.wrap (a2.s+O 1))::ni34 a3 a4 a5 a6 a7 a1 a8 a9 []) k))
abbrev nis0 (J1:Int->XRj->Prop) (y1:XRj) (v:Ev) (c:Cf) (w:Int) (cf ln:Nat) (g:Nat->Int) (J2:Int->XRj->Prop) (I:Nat×XRj->Prop):V:=ni132 J1 y1 v v.a c v.b v.x w cf fun y3 y4=>zj y4 (zj (decide (y1.s < (↑ln:Int))) (ni82 y1 ln (zj ((g (0+y1.s.toNat)).tmod (O 3) == O 1) (ni116 y1 ln (nN (ni41 g y1 (ni33 v v.a y3.m c [])) (ni83 v v.b y3.m y3 v.x y3.l (ni80 v y3.m J2 y1 y3 fun y5=>nN (ni134 v v.a y5 c v.b y3 v.x y3.l w cf y3.l.v []) zu)))) (ni79 J2 y1 y3 v v.a y3.m c v.b v.x y3.l w cf y3.l.v zu))) (ni79 J2 y1 y3 v v.a y3.m c v.b v.x y3.l w cf y3.l.v zu)) (ni132 J2 y1 v v.a c v.b v.x w cf fun y5 y6=>zj y6 (zj (decide (y1.s < (↑ln:Int))) (ni111 y1 ln (zj ((g (0+y1.s.toNat)).tmod (O 13) == O 5) (ni54 J2 y1 y5 v v.a y5.m c (nN (ni14 v v.b y5.m (ni50 y5 v (ni66 v.x v.b y5.l y5 (ni17 v.b v y5.m (ni50 y5 v (ni78 w y5 cf c v.x v.a y5.l y5.l.v [])))))) zu)) (ni79 J2 y1 y5 v v.a y5.m c v.b v.x y5.l w cf y5.l.v zu))) (ni79 J2 y1 y5 v v.a y5.m c v.b v.x y5.l w cf y5.l.v zu)) (z9 XRj (J2 y1.s) fun y7=>zj (y1.s == O 2) (ni135 I y7 y1 v v.a y7.m c v.b v.x y7.l (nN [qE w] (ni119 y7 cf (nN (qE w::ni46 y7 c v.x v.a y7.l y7.l.v []) zu)))) (ni135 I y7 y1 v v.a y7.m c v.b v.x y7.l (nN [qE w] (ni119 y7 cf (nN (qE w::ni46 y7 c v.x v.a y7.l y7.l.v []) zu))))))
abbrev ni51 (a0:Nat×XRj->Prop) (k:Bool->V):V:=U (∀ (x:Nat×XRj),a0 x->x.fst < 8) (z9 Bool (fun (x:Bool)=>True) fun v0=>k v0)
abbrev ni53 (l:LP):LP:=qE false::qE false::l
abbrev ni2 (a0:Ev) (a1:Rm) (a2:Mm) (k:V):V:=U (a0.n<=a0.n/\a0.n<=a1.c) (nN [(1,.pf (∀ (i e:Nat),i=0/\e < a0.n->a2.g e=a2.g e) (by intros; rfl))] k)
abbrev ni55 (a0:Ev) (a1:Rm) (a2:Mm) (k:V):V:=nN [(1,.le 1 1)] (ni2 a0 a1 a2 k)
abbrev ni64 (a0:Mm) (a1:Ev) (k:Mm->V):V:=nN [qX (a0.acc a1.n (O 1) (O 2) (a0.val a1.n (O 2)))] (z9 Mm (fun (m':Mm)=>m'=a0.acc a1.n (O 1) (O 2) (a0.val a1.n (O 2))) fun v0=>k v0)
abbrev ni76 (a0:Nat) (k:V):V:=U (O 0<=O 0/\O 0<=O 0/\O 0<=(↑a0:Int)) (nN [(12,.lt2 0 1 0 1)] k)
abbrev ni89 (a0:Cf) (l:LP):LP:=(2,.eqI 0 0)::ni24 a0 l
abbrev ni61 (a0:Ev) (a1:Rm) (l:LP):LP:=qE a0.n::qE a1.c::l
abbrev ni90 (a0:Ev) (a1:Rm) (a2:Mm) (l:LP):LP:=ni61 a0 a1 (qE a2.ct::(1,.le 1 1)::l)
abbrev ni15 (a0:Ev) (a1:Rm) (a2 a3:Mm) (k:V):V:=ni2 a0 a1 a2 (U (decide (a2.ct > i64.wrap (a3.ct+O 1))=false) k)
abbrev ni91 (a0:Ev) (a1:Rm) (a2 a3:Mm) (k:V):V:=nN (ni90 a0 a1 a2 []) (ni15 a0 a1 a2 a3 k)
abbrev ni93 (l:LP):LP:=(16,.lt2 0 1 0 1)::ni53 l
abbrev ni95 (a0:Int) (l:LP):LP:=qE a0::(6,.eqI 0 0)::l
abbrev ni99 (a0:Rk) (a1:Rm) (l:LP):LP:=ni25 a0 a1 ((1,.eq 0 0)::qE a1.e::l)
abbrev ni56 (l:LP):LP:=(3,.lt 0 1)::(7,.lt2 0 1 0 1)::l
abbrev ni100 (a0:XRj) (k:(Int×Int)->V):V:=nN [qE a0.x] (U (O 0<=a0.x/\a0.x<=O 18446744073709551615) (nA (fun (x:Int×Int)=>True) fun v0=>nN [(3,.lt 0 1)] (k v0)))
abbrev ni102 (a0:XRj) (k:(Int×Int)->V):V:=nN ((7,.lt2 0 1 0 1)::ni56 [(9,.lt 0 1)]) (ni100 a0 fun v0=>k v0)
abbrev ni103 (a0:Ev) (a1:Rm) (l:LP):LP:=(6,.lt2 0 1 0 1)::ni61 a0 a1 l
abbrev zed (a0:Ev) (l:LP):LP:=qE a0.now::qE a0.dr::l
abbrev zfh (a0:XRj) (a1:Nat) (l:LP):LP:=ni44 a0 (ni43 a1 l)
abbrev ni0 (a0:Rk) (l:LP):LP:=(1,.pf (∀ (i:Nat),i < a0.n->a0.kl i<=a0.kl i) (by intros; exact Z _))::(1,.pf (∀ (i e:Nat),i < a0.n/\e < a0.kl i->a0.kd i e=a0.kd i e) (by intros; rfl))::l
abbrev ni47 (a0:Rk) (a1:Rm) (l:LP):LP:=(1,.le 1 1)::(1,.pf (∀ (i:Nat),i < 1->a0.n<=a0.n) (by intros; exact Z _))::(1,.pf (∀ (i e:Nat),i < 1/\e < a0.n->a0.p e=a0.p e) (by intros; rfl))::(1,.pf (∀ (i e:Nat),i < 1/\e < a0.n->a0.pa e=a0.pa e) (by intros; rfl))::(1,.pf (∀ (i e:Nat),i < 1/\e < a0.n->a0.pc e=a0.pc e) (by intros; rfl))::(1,.pf (∀ (i e:Nat),i < 1/\e < a0.n->a0.lf e=a0.lf e) (by intros; rfl))::(1,.pf (∀ (i e:Nat),i < 1/\e < a0.n->a0.wt e=a0.wt e) (by intros; rfl))::(1,.pf (∀ (i e:Nat),i < 1/\e < a0.n->e=e) (by intros; rfl))::(1,.pf (∀ (i e:Nat),i < 1/\e < a0.n->a0.kl e=a0.kl e) (by intros; rfl))::(1,.pf (∀ (i e:Nat),i < 1/\e < a0.n->a1.k e=a1.k e) (by intros; rfl))::(1,.pf (∀ (i e:Nat),i < 1/\e < a0.n->a0.st e=a0.st e) (by intros; rfl))::(1,.le 1 1)::l
abbrev ni65 (a0:Ev) (a1:Rm) (a2 a3:Mm) (a4:Rk) (k:V):V:=U (a0.n<=a0.n/\a0.n<=a1.c) (U (∀ (i e:Nat),i=0/\e < a0.n->a2.g e=a3.g e) (nN (ni47 a4 a1 []) k))
abbrev ni68 (a0:Rk) (l:LP):LP:=qL a0.n::ni0 a0 (qL a0.n::l)
abbrev ni4 (a0:El) (a1:Evs) (l:LP):LP:=(1,.pf (∀ (i e:Nat),i=0/\e < a0.n->a1.t e=a1.t e) (by intros; rfl))::(1,.pf (∀ (i e:Nat),i=0/\e < a0.n->a1.o e=a1.o e) (by intros; rfl))::(1,.pf (∀ (i e:Nat),i=0/\e < a0.n->a1.l e=a1.l e) (by intros; rfl))::l
abbrev ni88 (a0:Ev) (a1:Rm) (a2:Mm) (a3:XRj) (a4:Rk) (k:V):V:=nN (ni14 a0 a1 a2 []) (ni55 a0 a1 a2 (nN (qE a3.now::ni47 a4 a1 []) k))
abbrev ni62 (a0:Ev) (a1:Rm) (a2 a3:Mm) (k:V):V:=nN (ni61 a0 a1 []) (U (a2.lk=a3.lk) (U (a2.lc=a3.lc) (U (a2.lo=a3.lo) (U (a2.ln=a3.ln) (U (a2.ct=a3.ct) k)))))
abbrev ni94 (a0:Ev) (a1:Rm) (a2 a3:Mm) (a4:XRj) (k:V):V:=ni62 a0 a1 a2 a3 (nN [qE a4.now] k)
abbrev ni1 (a0:El) (a1:Evs) (l:LP):LP:=(1,.pf (∀ (i e:Nat),i=0/\e < a0.n->a1.k e=a1.k e) (by intros; rfl))::(1,.pf (∀ (i e:Nat),i=0/\e < a0.n->a1.w e=a1.w e) (by intros; rfl))::l
abbrev ni112 (a0:XRj) (a1:Ev) (a2:Rm) (a3:Mm) (a4:Rk) (a5:El) (a6:Evs) (a7:Rm) (a8:Mm) (k:V):V:=nN [qE a0.na] (ni88 a1 a2 a3 a0 a4 (U (a5.n<=a5.n/\a5.n<=a0.na) (nN (ni1 a5 a6 (ni4 a5 a6 [])) (ni94 a1 a7 a8 a3 a0 (nN (ni66 a4 a7 a5 a0 [(1,.le 1 1)]) (ni65 a1 a7 a8 a3 a4 (U (a5.n<=a5.n/\a5.n<=a0.nb) (nN (ni1 a5 a6 (ni4 a5 a6 (ni68 a4 (ni0 a4 [])))) (U (okCm (Cm.mk a1.n a3 a0.now a4 a5.n a6)) k)))))))))
abbrev zfe (a0:Rk) (a1:Rm) (a2:El) (a3:XRj) (a4:Ev) (a5:Mm) (a6:Evs) (a7:Rm) (a8:Mm) (k:V):V:=nN ((3,.lt 0 1)::ni26 a0 a1 a2 []) (ni112 a3 a4 a1 a5 a0 a2 a6 a7 a8 k)
abbrev ni121 (a0:Rm) (l:LP):LP:=qE a0.e::ni74 (ni10 (qF 0 (fun (e:Nat)=>O 0)::l))
abbrev ni122 (a0:Rk) (a1:Rm) (l:LP):LP:=ni99 a0 a1 (ni121 a1 l)
abbrev ni126 (a0:Nat×XRj->Prop) (a1:Mm) (a2:Ev) (a3 a4:Rm) (a5:Cf) (k:V):V:=U (a0 ((O 1 - O 1).toNat,XRj.mk (O 0) a1 a2.now (O 1) (O 0) (O 0) (O 0) (O 0) (O 0) (O 0) (El.mk 0 (Evs.mk (fun (i:Nat)=>O 0) (fun (i:Nat)=>O 0) (fun (i:Nat)=>O 0) (fun (i:Nat)=>O 0) fun (i:Nat)=>O 0)) a3.e a4.e)) (nN ((1,.eqI 0 0)::ni33 a2 a3 a1 a5 (ni14 a2 a4 a1 [])) k)
abbrev ni98 (a0:Ev) (a1:Rm) (a2:Mm) (a3:Cf) (a4:Rm) (a5:Mm) (a6:XRj) (k:V):V:=nN (ni33 a0 a1 a2 a3 []) (ni62 a0 a4 a5 a2 (nN (ni16 a6 a0 []) k))
abbrev ni130 (a0:Rm) (a1:Ev) (a2 a3:Mm) (a4:XRj) (k:V):V:=nN [qE a0.c,qL a1.n] (U (∀ (e:Nat),e < a1.n->a2.g e=a3.g e) (nN (ni16 a4 a1 []) k))
abbrev zef (a0:Ev) (a1:Rm) (a2:Mm) (a3:Cf) (a4:Rm) (a5:Mm) (a6:XRj) (a7:Rk) (a8:El) (k:V):V:=ni98 a0 a1 a2 a3 a4 a5 a6 (nN (ni66 a7 a4 a8 a6 []) (ni130 a4 a0 a5 a2 a6 k))
theorem vRj0_eq (c:Cf) (v:Ev) (w:Int) (cf ln lc:Nat) (g:Nat->Int) (I:Nat×XRj->Prop) (J1 J2:Int->XRj->Prop):V.pr (.b (.b (.b (.f (.f (.f (.f (.t (.b (.t (.t (.f .z))) (.t (.f (.f .z))))))))) .z) .z) .z) (vRjO 0 c v w cf ln lc g I J1 J2)=
 ni126 I v.m v v.a v.b c (nN (zed v (ni99 v.x v.b (ni17 v.b v v.m (zed v (ni95 w (ni43 cf (ni95 w (ni28 c (ni122 v.x v.a (ni121 v.b [])))))))))) (ni51 I fun y0=>zj y0 (z9 XRj (fun (x:XRj)=>I (0,x)) fun y1=>zj (decide (y1.s < O 200)) (nN (ni34 v v.a y1.m c v.b y1 v.x y1.l (qE w::(1,.eqI 1 1)::zfh y1 cf [(1,.eqI 1 1),qE w])) (ni87 y1 c v.x v.a y1.l y1.l.v fun y2=>zj y2 (nN (ni103 v v.a [qE y1.m.ct]) (ni55 v v.a y1.m (nN (ni93 (ni53 ((16,.lt2 0 1 0 1)::qE true::(1,.eqI 2 2)::ni18 v v.a y1.m []))) (ni64 y1.m v fun y3=>zj (decide (i64.wrap (y1.m.val v.n (O 2))<=O 0)) (ni102 y1 fun y4=>nN (qE true::(1,.eqI 2 2)::ni89 c []) (ni83 v v.b y1.m y1 v.x y1.l (ni64 y1.m v fun y5=>nN [(6,.lt 0 1)] (U (decide (i64.wrap (y1.m.val v.n (O 2))<=O 0)=true) (nN [(6,.lt2 0 1 0 1)] (ni76 cf (nN (ni26 v.x v.a y1.l []) (ni112 y1 v v.a y3 v.x y1.l y1.l.v v.b y5 (ni91 v v.a y3 y1.m (nN ((6,.lt2 0 1 0 1)::ni26 v.x v.a y1.l []) (ni112 y1 v v.a y3 v.x y1.l y1.l.v v.b y5 (U True zu)))))))))))) (ni102 y1 fun y4=>nN (qE true::(1,.eqI 2 2)::ni89 c []) (ni83 v v.b y1.m y1 v.x y1.l (ni64 y1.m v fun y5=>nN [(6,.lt 0 1)] (U (decide (i64.wrap (y1.m.val v.n (O 2))<=O 0)=false) (zfe v.x v.a y1.l y1 v y3 y1.l.v v.b y5 (ni91 v v.a y3 y1.m (U (J1 y1.s { y1 with m:=y3,ln:=O 2,n:=i64.wrap (y1.m.val v.n (O 2)) }) (zef v v.a y3 c v.b y5 y1 v.x y1.l (nN (qE w::(1,.eqI 2 2)::qE (i64.wrap (y1.m.val v.n (O 2)))::ni31 y1 (ni43 cf [])) (U (i64.wrap (O 1+O 1)=O 2) (nN (qE w::ni22 y1 (qE (i64.wrap (y1.m.val v.n (O 2)))::ni21 y1 (ni28 c (ni39 v.x v.a y1.l y1 y1.l.v [])))) zu))))))))))))))) (nis0 J1 y1 v c w cf ln g J2 I))) (U True zu)) zu)):=by kernel_rfl
abbrev ni81 (a0:Mm) (a1:Ev) (a2:Cf) (k:Mm->V):V:=nN [qX (a0.acc a1.n (O 1) (atM (O 0) a2.H (O 4) (O 1)) (a0.val a1.n (atM (O 0) a2.H (O 4) (O 1))))] (z9 Mm (fun (m':Mm)=>m'=a0.acc a1.n (O 1) (atM (O 0) a2.H (O 4) (O 1)) (a0.val a1.n (atM (O 0) a2.H (O 4) (O 1)))) fun v0=>k v0)
abbrev ni105 (l:LP):LP:=qE false::qE true::l
abbrev ni106 (l:LP):LP:=(1,.eqI 4 4)::(1,.eqI 1 1)::l
abbrev ni110 (a0:Cf) (k:V):V:=U (zdc (O 0) a0.H (O 4) (O 1)) (nN [qE (atM (O 0) a0.H (O 4) (O 1))] k)
theorem vRj1_eq (c:Cf) (v:Ev) (w:Int) (cf ln lc:Nat) (g:Nat->Int) (I:Nat×XRj->Prop) (J1 J2:Int->XRj->Prop):V.pr (.b (.b (.b (.f (.f (.f (.f (.f (.t (.f (.t (.f .z))))))))) .z) .z) .z) (vRjO 1 c v w cf ln lc g I J1 J2)=
 ni126 I v.m v v.a v.b c (nN (zed v (ni99 v.x v.b (ni17 v.b v v.m (zed v (ni95 w (ni43 cf (ni95 w (ni28 c (ni122 v.x v.a (ni121 v.b [])))))))))) (ni51 I fun y0=>zj y0 (z9 XRj (fun (x:XRj)=>I (1,x)) fun y1=>zj (decide (y1.s < O 200)) (nN (ni34 v v.a y1.m c v.b y1 v.x y1.l (qE w::(1,.eqI 2 2)::zfh y1 cf [(1,.eqI 2 2),qE w])) (ni87 y1 c v.x v.a y1.l y1.l.v fun y2=>zj y2 (nN (ni103 v v.a [qE y1.m.ct]) (ni55 v v.a y1.m (nN (ni93 (ni53 ((16,.lt2 0 1 0 1)::ni105 ((1,.eqI 0 0)::qE c.H::ni106 [])))) (ni110 c (nN (ni18 v v.a y1.m []) (ni81 y1.m v c fun y3=>ni102 y1 fun y4=>nN (ni105 [(1,.eqI 4 4),(1,.eqI 0 0),qE c.H,(1,.eqI 1 1)]) (ni110 c (nN (ni89 c []) (ni83 v v.b y1.m y1 v.x y1.l (ni81 y1.m v c fun y5=>nN ((6,.lt 0 1)::ni26 v.x v.a y1.l []) (ni112 y1 v v.a y3 v.x y1.l y1.l.v v.b y5 (ni91 v v.a y3 y1.m (U (J1 y1.s { y1 with m:=y3,ln:=O 3,x:=y1.m.val v.n (atM (O 0) c.H (O 4) (O 1)) }) (zef v v.a y3 c v.b y5 y1 v.x y1.l (nN (qE w::(1,.eqI 3 3)::qE y1.n::ni22 y1 (qE (y1.m.val v.n (atM (O 0) c.H (O 4) (O 1)))::qE y1.y::qE y1.z::ni43 cf [])) (U (i64.wrap (O 2+O 1)=O 3) (nN (qE w::ni22 y1 (qE y1.n::qE (y1.m.val v.n (atM (O 0) c.H (O 4) (O 1)))::qE y1.y::qE y1.z::ni28 c (ni39 v.x v.a y1.l y1 y1.l.v []))) zu))))))))))))))))) (nis0 J1 y1 v c w cf ln g J2 I))) (U True zu)) zu)):=by kernel_rfl
abbrev ni57 (l:LP):LP:=(16,.lt2 0 1 0 1)::(1,.eqI 4 4)::l
abbrev ni63 (a0:Mm) (a1:Ev) (a2:XRj) (a3:Cf) (k:Mm->V):V:=nN [qX (a0.acc a1.n (O 1) (atM (i64.wrap (a2.n - O 1)) a3.H (O 4) (O 1)) (a0.val a1.n (atM (i64.wrap (a2.n - O 1)) a3.H (O 4) (O 1))))] (z9 Mm (fun (m':Mm)=>m'=a0.acc a1.n (O 1) (atM (i64.wrap (a2.n - O 1)) a3.H (O 4) (O 1)) (a0.val a1.n (atM (i64.wrap (a2.n - O 1)) a3.H (O 4) (O 1)))) fun v0=>k v0)
abbrev ni101 (a0:XRj) (a1:Cf) (k:V):V:=U (zdc (i64.wrap (a0.n - O 1)) a1.H (O 4) (O 1)) (nN [qE (atM (i64.wrap (a0.n - O 1)) a1.H (O 4) (O 1))] k)
theorem vRj2_eq (c:Cf) (v:Ev) (w:Int) (cf ln lc:Nat) (g:Nat->Int) (I:Nat×XRj->Prop) (J1 J2:Int->XRj->Prop):V.pr (.b (.b (.b (.f (.f (.f (.f (.f (.f (.t (.f (.f (.t (.f .z))))))))))) .z) .z) .z) (vRjO 2 c v w cf ln lc g I J1 J2)=
 ni126 I v.m v v.a v.b c (nN (zed v (ni99 v.x v.b (ni17 v.b v v.m (zed v (ni95 w (ni43 cf (ni95 w (ni28 c (ni122 v.x v.a (ni121 v.b [])))))))))) (ni51 I fun y0=>zj y0 (z9 XRj (fun (x:XRj)=>I (2,x)) fun y1=>zj (decide (y1.s < O 200)) (nN (ni34 v v.a y1.m c v.b y1 v.x y1.l (qE w::(1,.eqI 3 3)::zfh y1 cf [(1,.eqI 3 3),qE w])) (ni87 y1 c v.x v.a y1.l y1.l.v fun y2=>zj y2 (nN (ni103 v v.a [qE y1.m.ct]) (ni55 v v.a y1.m (nN (ni93 (ni53 (ni93 (qE true::(14,.lt2 0 1 0 1)::qE (i64.wrap (y1.n - O 1))::qE c.H::ni106 [])))) (ni101 y1 c (nN (ni18 v v.a y1.m []) (ni63 y1.m v y1 c fun y3=>nN ((9,.lt2 0 1 0 1)::ni56 [(9,.lt 0 1)]) (ni100 y1 fun y4=>nN (ni53 (qE true::ni57 [qE (i64.wrap (y1.n - O 1)),qE c.H,(1,.eqI 1 1)])) (ni101 y1 c (nN (ni89 c []) (ni83 v v.b y1.m y1 v.x y1.l (ni63 y1.m v y1 c fun y5=>nN ((2,.lt2 0 1 0 1)::(4,.lt 0 1)::ni26 v.x v.a y1.l []) (ni112 y1 v v.a y3 v.x y1.l y1.l.v v.b y5 (ni91 v v.a y3 y1.m (U (J1 y1.s { y1 with m:=y3,ln:=O 4,y:=y1.m.val v.n (atM (i64.wrap (y1.n - O 1)) c.H (O 4) (O 1)) }) (zef v v.a y3 c v.b y5 y1 v.x y1.l (nN (qE w::(1,.eqI 4 4)::qE y1.n::ni22 y1 (qE y1.x::qE (y1.m.val v.n (atM (i64.wrap (y1.n - O 1)) c.H (O 4) (O 1)))::qE y1.z::ni43 cf [])) (U (i64.wrap (O 3+O 1)=O 4) (nN (qE w::ni22 y1 (qE y1.n::qE y1.x::qE (y1.m.val v.n (atM (i64.wrap (y1.n - O 1)) c.H (O 4) (O 1)))::qE y1.z::ni28 c (ni39 v.x v.a y1.l y1 y1.l.v []))) zu)))))))))))))))))) (nis0 J1 y1 v c w cf ln g J2 I))) (U True zu)) zu)):=by kernel_rfl
abbrev ni9 (a0:El) (a1:Evs) (k:V):V:=U (∀ (e:Nat),e < a0.n+1->(if 0=0/\e=a0.n then O 0 else a1.o e)=if 0=0/\e=a0.n then O 0 else a1.o e) (U (∀ (e:Nat),e < a0.n+1->(if 0=0/\e=a0.n then O 0 else a1.l e)=if 0=0/\e=a0.n then O 0 else a1.l e) k)
abbrev ni49 (a0:El) (a1:XRj) (a2:Evs) (k:V):V:=U (∀ (e:Nat),e < a0.n+1->(if 0=0/\e=a0.n then tkW a1.x else a2.t e)=if 0=0/\e=a0.n then i64.wrap (bits BinOp.and IntKind.u64 a1.x (O 65535)) else a2.t e) (ni9 a0 a2 k)
abbrev ni73 (a0:El) (a1:Evs) (a2:Int) (k:V):V:=U (a0.n+1<=a0.n+1) (U (∀ (e:Nat),e < a0.n+1->(if 0=0/\e=a0.n then O 13 else a1.k e)=if 0=0/\e=a0.n then O 13 else a1.k e) (U (∀ (e:Nat),e < a0.n+1->(if 0=0/\e=a0.n then a2 else a1.w e)=if 0=0/\e=a0.n then a2 else a1.w e) k))
abbrev ni85 (a0:Rk) (a1:Rm) (a2:El) (l:LP):LP:=ni25 a0 a1 (qE (a2.n+1)::l)
abbrev ni124 (a0:XRj) (k:V):V:=U (O 0=a0.i) (nN [qE a0.c] k)
abbrev ni40 (a0:El) (a1:XRj) (a2:Evs) (k:V):V:=U (∀ (e:Nat),e < a0.n+1->(if 0=0/\e=a0.n then i64.wrap (bits BinOp.and IntKind.u64 a1.x (O 65535)) else a2.t e)=if 0=0/\e=a0.n then i64.wrap (bits BinOp.and IntKind.u64 a1.x (O 65535)) else a2.t e) (ni9 a0 a2 k)
abbrev nis1 (y1:XRj) (c:Cf) (v:Ev) (y4:Nat) (w:Int) (y7:Nat):V:=ni124 y1 (nN (ni37 y1 (ni28 c (ni85 v.x v.a y1.l [qE y4,qE y4]))) (ni73 y1.l y1.l.v w (ni40 y1.l y1 y1.l.v (nN [qE y7] (ni73 y1.l y1.l.v w (ni49 y1.l y1 y1.l.v zu))))))
abbrev ni48 (a0:Mm) (a1:Ev) (a2:XRj) (k:Mm->V):V:=nN [qX (a0.acc a1.n (O 2) (O 2) (u64.wrap (i64.wrap (a2.n - O 1))))] (z9 Mm (fun (m':Mm)=>m'=a0.acc a1.n (O 2) (O 2) (u64.wrap (i64.wrap (a2.n - O 1)))) fun v0=>k v0)
abbrev ni52 (a0:El) (a1:Nat) (a2:Evs) (a3:Int) (k:V):V:=U (a0.n+1<=a0.n+1/\a0.n+1<=a1) (U (∀ (i e:Nat),i=0/\e < a0.n+1->(if i=0/\e=a0.n then O 13 else a2.k e)=if 0=0/\e=a0.n then O 13 else a2.k e) (U (∀ (i e:Nat),i=0/\e < a0.n+1->(if i=0/\e=a0.n then a3 else a2.w e)=if 0=0/\e=a0.n then a3 else a2.w e) k))
abbrev ni58 (a0:Ev) (a1:Rm) (a2 a3:Mm) (a4:Int->XRj->Prop) (a5:XRj) (a6:El) (a7:Evs) (a8:Int) (a9 a10:Nat) (k:V):V:=ni15 a0 a1 a2 a3 (U (a4 a5.s (XRj.mk a5.s a2 a5.now (O 5) a5.n a5.i a5.c a5.x a5.y a5.z (El.mk (a6.n+1) (Evs.mk (fun (i:Nat)=>if 0=0/\i=a6.n then O 13 else a7.k i) (fun (i:Nat)=>if 0=0/\i=a6.n then a8 else a7.w i) (fun (i:Nat)=>if 0=0/\i=a6.n then i64.wrap (bits BinOp.and IntKind.u64 a5.x (O 65535)) else a7.t i) (fun (i:Nat)=>if 0=0/\i=a6.n then O 0 else a7.o i) fun (i:Nat)=>if 0=0/\i=a6.n then O 0 else a7.l i)) a9 a10)) k)
abbrev ni59 (a0:Ev) (a1:Rm) (a2 a3:Mm) (a4:Int->XRj->Prop) (a5:XRj) (a6:El) (a7:Evs) (a8:Int) (a9 a10:Nat) (k:V):V:=ni15 a0 a1 a2 a3 (U (a4 a5.s (XRj.mk a5.s a2 a5.now (O 8) a5.n a5.i a5.c a5.x a5.y a5.z (El.mk (a6.n+1) (Evs.mk (fun (i:Nat)=>if 0=0/\i=a6.n then O 13 else a7.k i) (fun (i:Nat)=>if 0=0/\i=a6.n then a8 else a7.w i) (fun (i:Nat)=>if 0=0/\i=a6.n then i64.wrap (bits BinOp.and IntKind.u64 a5.x (O 65535)) else a7.t i) (fun (i:Nat)=>if 0=0/\i=a6.n then O 0 else a7.o i) fun (i:Nat)=>if 0=0/\i=a6.n then O 0 else a7.l i)) a9 a10)) k)
abbrev ni71 (a0:El) (k:Nat->V):V:=U (a0.n+1<=9223372036854775807/\(a0.n+1) * 40<=140737488355328) (z9 Nat (fun (x_6:Nat)=>a0.n+1<=x_6) fun v0=>k v0)
abbrev ni86 (a0:XRj) (l:LP):LP:=(1,.eqI 2 2)::qE (u64.wrap (i64.wrap (a0.n - O 1)))::l
abbrev ni108 (a0:XRj) (k:V):V:=nN [(6,.lt2 0 1 0 1)] (U ((i64.wrap (bits BinOp.and IntKind.u64 a0.x (O 65535)) == tkW a0.x)=true) k)
abbrev ni125 (a0:Cf) (l:LP):LP:=(1,.eqI 0 0)::ni24 a0 l
abbrev ni133 (a0:Int) (l:LP):LP:=qE a0::(1,.eqI 8 8)::l
abbrev ni136 (a0:El) (a1:XRj) (k:V):V:=nN [(8,.lt 0 1)] (U (a0.n<=a0.n/\a1.nb=a1.nb) k)
abbrev ni8 (a0:Rk) (a1:Ev) (a2:Mm) (a3:XRj) (a4:El) (a5:Evs) (a6:Int) (k:V):V:=nN (ni0 a0 []) (U (okCm (Cm.mk a1.n a2 a3.now a0 (a4.n+1) (Evs.mk (fun (i:Nat)=>if 0=0/\i=a4.n then O 13 else a5.k i) (fun (i:Nat)=>if 0=0/\i=a4.n then a6 else a5.w i) (fun (i:Nat)=>if 0=0/\i=a4.n then i64.wrap (bits BinOp.and IntKind.u64 a3.x (O 65535)) else a5.t i) (fun (i:Nat)=>if 0=0/\i=a4.n then O 0 else a5.o i) fun (i:Nat)=>if 0=0/\i=a4.n then O 0 else a5.l i))) k)
abbrev ni5 (a0:El) (a1:Evs) (k:V):V:=U (∀ (i e:Nat),i=0/\e < a0.n+1->(if i=0/\e=a0.n then O 0 else a1.o e)=if 0=0/\e=a0.n then O 0 else a1.o e) (U (∀ (i e:Nat),i=0/\e < a0.n+1->(if i=0/\e=a0.n then O 0 else a1.l e)=if 0=0/\e=a0.n then O 0 else a1.l e) k)
abbrev ni19 (a0:El) (a1:XRj) (a2:Evs) (k:V):V:=U (∀ (i e:Nat),i=0/\e < a0.n+1->(if i=0/\e=a0.n then i64.wrap (bits BinOp.and IntKind.u64 a1.x (O 65535)) else a2.t e)=if 0=0/\e=a0.n then i64.wrap (bits BinOp.and IntKind.u64 a1.x (O 65535)) else a2.t e) (ni5 a0 a2 k)
abbrev ni30 (a0:El) (a1:XRj) (a2:Evs) (k:V):V:=U (∀ (i e:Nat),i=0/\e < a0.n+1->(if i=0/\e=a0.n then tkW a1.x else a2.t e)=if 0=0/\e=a0.n then i64.wrap (bits BinOp.and IntKind.u64 a1.x (O 65535)) else a2.t e) (ni5 a0 a2 k)
theorem vRj3_eq (c:Cf) (v:Ev) (w:Int) (cf ln lc:Nat) (g:Nat->Int) (I:Nat×XRj->Prop) (J1 J2:Int->XRj->Prop):V.pr (.b (.b (.b (.f (.f (.f (.f (.f (.f (.f (.b (.f (.f (.f (.t (.t (.f (.t .z))))))) (.b (.f (.f (.f (.t (.f (.b (.f .z) (.f .z))))))) (.f (.f (.f (.t (.f (.b (.f .z) (.f .z)))))))))))))))) .z) .z) .z) (vRjO 3 c v w cf ln lc g I J1 J2)=
 ni126 I v.m v v.a v.b c (nN (zed v (ni99 v.x v.b (ni17 v.b v v.m (zed v (ni95 w (ni43 cf (ni95 w (ni28 c (ni122 v.x v.a (ni121 v.b [])))))))))) (ni51 I fun y0=>zj y0 (z9 XRj (fun (x:XRj)=>I (3,x)) fun y1=>zj (decide (y1.s < O 200)) (nN (ni34 v v.a y1.m c v.b y1 v.x y1.l (qE w::(1,.eqI 4 4)::zfh y1 cf [(1,.eqI 4 4),qE w])) (ni87 y1 c v.x v.a y1.l y1.l.v fun y2=>zj y2 (nN (ni103 v v.a [qE y1.m.ct]) (ni55 v v.a y1.m (nN (ni93 (ni53 (ni93 (qE false::(14,.lt2 0 1 0 1)::ni86 y1 (ni18 v v.a y1.m []))))) (ni48 y1.m v y1 fun y3=>nN [(6,.lt2 0 1 0 1),(1,.leI 0 40),(1,.leI 0 16),(13,.lt2 0 1 0 1)] (U (y1.l.n<=y1.l.n/\y1.na=y1.na) (U (y1.l.n+1<=9223372036854775807/\(y1.l.n+1) * 40<=140737488355328) (z9 Nat (fun (x_3:Nat)=>y1.l.n+1<=x_3) fun y4=>nN [(2,.lt2 0 1 0 1)] (zj (y1.n == O 1) (nN [(5,.lt2 0 1 0 1),(1,.leI 0 40),(1,.leI 0 16)] (ni102 y1 fun y5=>nN (ni53 (ni105 ((3,.lt 0 1)::ni86 y1 (ni125 c [])))) (ni83 v v.b y1.m y1 v.x y1.l (ni48 y1.m v y1 fun y6=>ni136 y1.l y1 (ni71 y1.l fun y7=>nN [(3,.lt 0 1)] (U ((y1.n == O 1)=true) (nN [(6,.lt2 0 1 0 1)] (ni76 cf (nN (ni85 v.x v.a y1.l [qE y4]) (ni88 v v.a y3 y1 v.x (ni52 y1.l y4 y1.l.v w (ni19 y1.l y1 y1.l.v (ni94 v v.b y6 y3 y1 (nN (ni85 v.x v.b y1.l (ni27 y7 [])) (ni65 v v.b y6 y3 v.x (ni52 y1.l y7 y1.l.v w (ni30 y1.l y1 y1.l.v (nN (ni68 v.x []) (ni8 v.x v y3 y1 y1.l y1.l.v w (ni91 v v.a y3 y1.m (ni108 y1 (nN (ni85 v.x v.a y1.l [qE y4]) (ni88 v v.a y3 y1 v.x (ni52 y1.l y4 y1.l.v w (ni19 y1.l y1 y1.l.v (ni94 v v.b y6 y3 y1 (nN (ni85 v.x v.b y1.l (ni27 y7 [])) (ni65 v v.b y6 y3 v.x (ni52 y1.l y7 y1.l.v w (ni30 y1.l y1 y1.l.v (nN (ni68 v.x []) (ni8 v.x v y3 y1 y1.l y1.l.v w (U True zu))))))))))))))))))))))))))))))))) (nN [(6,.lt2 0 1 0 1)] (zj (decide (i64.wrap (i64.wrap (O 2 * y1.i)+O 1) < i64.wrap (y1.n - O 1))) (ni102 y1 fun y5=>nN (ni53 (ni105 ((3,.lt 0 1)::ni86 y1 (ni125 c [])))) (ni83 v v.b y1.m y1 v.x y1.l (ni48 y1.m v y1 fun y6=>ni136 y1.l y1 (ni71 y1.l fun y7=>nN [(3,.lt 0 1)] (U ((y1.n == O 1)=false) (nN [(3,.lt 0 1),(6,.lt2 0 1 0 1)] (zj (decide (O 1 < i64.wrap (y1.n - O 1))) (nN ((3,.lt 0 1)::ni85 v.x v.a y1.l [qE y4]) (ni88 v v.a y3 y1 v.x (ni52 y1.l y4 y1.l.v w (ni19 y1.l y1 y1.l.v (ni94 v v.b y6 y3 y1 (nN (ni85 v.x v.b y1.l (ni27 y7 [])) (ni65 v v.b y6 y3 v.x (ni52 y1.l y7 y1.l.v w (ni30 y1.l y1 y1.l.v (nN (ni68 v.x []) (ni8 v.x v y3 y1 y1.l y1.l.v w (nN (ni90 v v.a y3 []) (ni58 v v.a y3 y1.m J1 y1 y1.l y1.l.v w y4 y7 (ni98 v v.a y3 c v.b y6 y1 (nN (ni85 v.x v.b y1.l [qE y7]) (ni130 v.b v y6 y3 y1 (nN (qE w::(1,.eqI 5 5)::zfh y1 cf [(1,.eqI 5 5),qE w]) (nis1 y1 c v y4 w y7)))))))))))))))))) (nN ((3,.lt 0 1)::ni85 v.x v.a y1.l [qE y4]) (ni88 v v.a y3 y1 v.x (ni52 y1.l y4 y1.l.v w (ni19 y1.l y1 y1.l.v (ni94 v v.b y6 y3 y1 (nN (ni85 v.x v.b y1.l (ni27 y7 [])) (ni65 v v.b y6 y3 v.x (ni52 y1.l y7 y1.l.v w (ni30 y1.l y1 y1.l.v (nN (ni68 v.x []) (ni8 v.x v y3 y1 y1.l y1.l.v w (nN (ni90 v v.a y3 []) (ni58 v v.a y3 y1.m J1 y1 y1.l y1.l.v w y4 y7 (ni98 v v.a y3 c v.b y6 y1 (nN (ni85 v.x v.b y1.l [qE y7]) (ni130 v.b v y6 y3 y1 (nN (qE w::(1,.eqI 5 5)::zfh y1 cf []) (U (O 8=O 5) (nN [qE w] (nis1 y1 c v y4 w y7))))))))))))))))))))))))))) (ni102 y1 fun y5=>nN (ni53 (ni105 ((3,.lt 0 1)::ni86 y1 (ni125 c [])))) (ni83 v v.b y1.m y1 v.x y1.l (ni48 y1.m v y1 fun y6=>ni136 y1.l y1 (ni71 y1.l fun y7=>nN [(3,.lt 0 1)] (U ((y1.n == O 1)=false) (nN [(3,.lt 0 1),(6,.lt2 0 1 0 1)] (zj (decide (O 1 < i64.wrap (y1.n - O 1))) (nN ((3,.lt 0 1)::ni85 v.x v.a y1.l [qE y4]) (ni88 v v.a y3 y1 v.x (ni52 y1.l y4 y1.l.v w (ni19 y1.l y1 y1.l.v (ni94 v v.b y6 y3 y1 (nN (ni85 v.x v.b y1.l (ni27 y7 [])) (ni65 v v.b y6 y3 v.x (ni52 y1.l y7 y1.l.v w (ni30 y1.l y1 y1.l.v (nN (ni68 v.x []) (ni8 v.x v y3 y1 y1.l y1.l.v w (nN (ni90 v v.a y3 []) (ni59 v v.a y3 y1.m J1 y1 y1.l y1.l.v w y4 y7 (ni98 v v.a y3 c v.b y6 y1 (nN (ni85 v.x v.b y1.l [qE y7]) (ni130 v.b v y6 y3 y1 (nN (ni133 w (zfh y1 cf [])) (U (O 5=O 8) (nN [qE w] (nis1 y1 c v y4 w y7)))))))))))))))))))) (nN ((3,.lt 0 1)::ni85 v.x v.a y1.l [qE y4]) (ni88 v v.a y3 y1 v.x (ni52 y1.l y4 y1.l.v w (ni19 y1.l y1 y1.l.v (ni94 v v.b y6 y3 y1 (nN (ni85 v.x v.b y1.l (ni27 y7 [])) (ni65 v v.b y6 y3 v.x (ni52 y1.l y7 y1.l.v w (ni30 y1.l y1 y1.l.v (nN (ni68 v.x []) (ni8 v.x v y3 y1 y1.l y1.l.v w (nN (ni90 v v.a y3 []) (ni59 v v.a y3 y1.m J1 y1 y1.l y1.l.v w y4 y7 (ni98 v v.a y3 c v.b y6 y1 (nN (ni85 v.x v.b y1.l [qE y7]) (ni130 v.b v y6 y3 y1 (nN (ni133 w (zfh y1 cf [(1,.eqI 8 8),qE w])) (nis1 y1 c v y4 w y7))))))))))))))))))))))))))))))))))) (nis0 J1 y1 v c w cf ln g J2 I))) (U True zu)) zu)):=by kernel_rfl
abbrev ni45 (a0:Ev) (a1:Rm) (a2 a3:Mm) (a4:Int->XRj->Prop) (a5:XRj) (a6:Cf) (k:V):V:=ni15 a0 a1 a2 a3 (U (a4 a5.s { a5 with m:=a2,ln:=O 6,c:=i64.wrap (i64.wrap (O 2 * a5.i)+O 1),z:=a3.val a0.n (atM (i64.wrap (i64.wrap (O 2 * a5.i)+O 1)) a6.H (O 4) (O 1)) }) k)
abbrev zfk (a0:XRj) (a1:Mm) (a2:Ev) (a3:Cf) (l:LP):LP:=qE a0.x::qE a0.y::qE (a1.val a2.n (atM (i64.wrap (i64.wrap (O 2 * a0.i)+O 1)) a3.H (O 4) (O 1)))::l
abbrev ni123 (a0:Nat) (k:V):V:=nN (ni43 a0 []) (U (i64.wrap (O 5+O 1)=O 6) k)
abbrev ni29 (a0:XRj) (l:LP):LP:=qE a0.i::qE (i64.wrap (i64.wrap (O 2 * a0.i)+O 1))::l
abbrev nis3 (v:Ev) (y1:XRj) (y3 y5:Mm) (J1:Int->XRj->Prop) (c:Cf) (w:Int) (cf:Nat):V:=zfe v.x v.a y1.l y1 v y3 y1.l.v v.b y5 (nN (ni90 v v.a y3 []) (ni45 v v.a y3 y1.m J1 y1 c (zef v v.a y3 c v.b y5 y1 v.x y1.l (nN (qE w::(1,.eqI 6 6)::qE y1.n::ni29 y1 (zfk y1 y1.m v c [])) (ni123 cf (nN (qE w::ni29 y1 (qE y1.n::zfk y1 y1.m v c (ni28 c (ni39 v.x v.a y1.l y1 y1.l.v [])))) zu))))))
abbrev ni69 (a0:XRj) (a1:Cf) (l:LP):LP:=qE (i64.wrap (i64.wrap (O 2 * a0.i)+O 1))::qE a1.H::l
abbrev ni96 (a0:Ev) (a1:Rm) (a2 a3:Mm) (a4:Int->XRj->Prop) (a5:XRj) (a6:Cf) (k:V):V:=ni91 a0 a1 a2 a3 (U (a4 a5.s { a5 with m:=a2,ln:=O 7,c:=i64.wrap (i64.wrap (O 2 * a5.i)+O 1),z:=a3.val a0.n (atM (i64.wrap (i64.wrap (O 2 * a5.i)+O 1)) a6.H (O 4) (O 1)) }) k)
abbrev ni97 (a0:Ev) (a1:Rm) (a2 a3:Mm) (a4:Int->XRj->Prop) (a5:XRj) (a6:Cf) (k:V):V:=ni91 a0 a1 a2 a3 (U (a4 a5.s { a5 with m:=a2,ln:=O 8,c:=i64.wrap (i64.wrap (O 2 * a5.i)+O 1),z:=a3.val a0.n (atM (i64.wrap (i64.wrap (O 2 * a5.i)+O 1)) a6.H (O 4) (O 1)) }) k)
abbrev ni114 (a0:Mm) (a1:Ev) (a2:XRj) (a3:Cf) (k:V):V:=nN [(6,.lt2 0 1 0 1)] (U (decide (a0.val a1.n (atM (i64.wrap (i64.wrap (O 2 * a2.i)+O 1)) a3.H (O 4) (O 1)) < a2.y)=false) k)
abbrev ni117 (a0:Mm) (a1:Ev) (a2:XRj) (a3:Cf) (k:V):V:=nN [(6,.lt2 0 1 0 1)] (U (decide (a0.val a1.n (atM (i64.wrap (i64.wrap (O 2 * a2.i)+O 1)) a3.H (O 4) (O 1)) < a2.y)=true) k)
abbrev ni127 (a0:XRj) (k:(Int×Int)->V):V:=ni102 a0 fun v0=>nN (ni53 (ni53 [])) (k v0)
abbrev ni128 (l:LP):LP:=(2,.lt2 0 1 0 1)::(1,.lt 0 1)::(6,.lt2 0 1 0 1)::l
abbrev ni11 (a0:Mm) (a1:Ev) (a2:XRj) (a3:Cf) (k:Mm->V):V:=nN [qX (a0.acc a1.n (O 1) (atM (i64.wrap (i64.wrap (O 2 * a2.i)+O 1)) a3.H (O 4) (O 1)) (a0.val a1.n (atM (i64.wrap (i64.wrap (O 2 * a2.i)+O 1)) a3.H (O 4) (O 1))))] (z9 Mm (fun (m':Mm)=>m'=a0.acc a1.n (O 1) (atM (i64.wrap (i64.wrap (O 2 * a2.i)+O 1)) a3.H (O 4) (O 1)) (a0.val a1.n (atM (i64.wrap (i64.wrap (O 2 * a2.i)+O 1)) a3.H (O 4) (O 1)))) fun v0=>k v0)
abbrev ni35 (a0:XRj) (a1:Cf) (k:V):V:=U (zdc (i64.wrap (i64.wrap (O 2 * a0.i)+O 1)) a1.H (O 4) (O 1)) (nN [qE (atM (i64.wrap (i64.wrap (O 2 * a0.i)+O 1)) a1.H (O 4) (O 1))] k)
theorem vRj4_eq (c:Cf) (v:Ev) (w:Int) (cf ln lc:Nat) (g:Nat->Int) (I:Nat×XRj->Prop) (J1 J2:Int->XRj->Prop):V.pr (.b (.b (.b (.t (.b (.b (.f (.f (.f (.f (.t (.b (.t (.f .z)) (.f .z))))))) (.f (.f (.f (.f (.t (.b (.t (.f .z)) (.f .z)))))))) (.b (.f (.f (.f (.f (.t (.b (.f (.f .z)) (.f .z))))))) (.f (.f (.f (.f (.t (.b (.f (.f .z)) (.f .z)))))))))) .z) .z) .z) (vRjO 4 c v w cf ln lc g I J1 J2)=
 ni126 I v.m v v.a v.b c (nN (zed v (ni99 v.x v.b (ni17 v.b v v.m (zed v (ni95 w (ni43 cf (ni95 w (ni28 c (ni122 v.x v.a (ni121 v.b [])))))))))) (ni51 I fun y0=>zj y0 (z9 XRj (fun (x:XRj)=>I (4,x)) fun y1=>zj (decide (y1.s < O 200)) (nN (ni34 v v.a y1.m c v.b y1 v.x y1.l (qE w::(1,.eqI 5 5)::zfh y1 cf [(1,.eqI 5 5),qE w])) (ni87 y1 c v.x v.a y1.l y1.l.v fun y2=>zj y2 (nN (ni103 v v.a [qE y1.m.ct]) (ni55 v v.a y1.m (nN ((16,.lt2 0 1 0 1)::qE true::(14,.lt2 0 1 0 1)::ni69 y1 c (ni106 [])) (ni35 y1 c (nN (ni18 v v.a y1.m []) (ni11 y1.m v y1 c fun y3=>nN [(8,.lt2 0 1 0 1)] (zj (decide (y1.m.val v.n (atM (i64.wrap (i64.wrap (O 2 * y1.i)+O 1)) c.H (O 4) (O 1)) < y1.y)) (nN [(6,.lt2 0 1 0 1)] (zj (decide (i64.wrap (i64.wrap (i64.wrap (O 2 * y1.i)+O 1)+O 1) < i64.wrap (y1.n - O 1))) (ni127 y1 fun y4=>nN (qE true::(6,.lt 0 1)::ni57 (ni69 y1 c [(1,.eqI 1 1)])) (ni35 y1 c (nN (ni89 c []) (ni83 v v.b y1.m y1 v.x y1.l (ni11 y1.m v y1 c fun y5=>nN (ni128 []) (zj (decide (i64.wrap (i64.wrap (O 2 * y1.i)+O 2) >= i64.wrap (y1.n - O 1))) (ni117 y1.m v y1 c (zfe v.x v.a y1.l y1 v y3 y1.l.v v.b y5 (nN (ni90 v v.a y3 []) (ni45 v v.a y3 y1.m J1 y1 c (zef v v.a y3 c v.b y5 y1 v.x y1.l (nN (qE w::(1,.eqI 6 6)::qE y1.n::ni29 y1 (zfk y1 y1.m v c (ni43 cf []))) (U (O 7=O 6) (nN (qE w::ni29 y1 (qE y1.n::zfk y1 y1.m v c (ni28 c (ni39 v.x v.a y1.l y1 y1.l.v [])))) zu)))))))) (nis3 v y1 y3 y5 J1 c w cf))))))) (ni127 y1 fun y4=>nN (qE true::(6,.lt 0 1)::ni57 (ni69 y1 c [(1,.eqI 1 1)])) (ni35 y1 c (nN (ni89 c []) (ni83 v v.b y1.m y1 v.x y1.l (ni11 y1.m v y1 c fun y5=>nN (ni128 []) (zj (decide (i64.wrap (i64.wrap (O 2 * y1.i)+O 2) >= i64.wrap (y1.n - O 1))) (ni117 y1.m v y1 c (zfe v.x v.a y1.l y1 v y3 y1.l.v v.b y5 (ni96 v v.a y3 y1.m J1 y1 c (zef v v.a y3 c v.b y5 y1 v.x y1.l (nN (qE w::(1,.eqI 7 7)::qE y1.n::ni29 y1 (zfk y1 y1.m v c (ni43 cf ((1,.eqI 7 7)::qE w::ni29 y1 (qE y1.n::zfk y1 y1.m v c (ni28 c (ni39 v.x v.a y1.l y1 y1.l.v []))))))) zu))))) (zfe v.x v.a y1.l y1 v y3 y1.l.v v.b y5 (ni96 v v.a y3 y1.m J1 y1 c (zef v v.a y3 c v.b y5 y1 v.x y1.l (nN (qE w::(1,.eqI 7 7)::qE y1.n::ni29 y1 (zfk y1 y1.m v c (ni43 cf []))) (U (i64.wrap (O 5+O 1)=O 7) (nN (qE w::ni29 y1 (qE y1.n::zfk y1 y1.m v c (ni28 c (ni39 v.x v.a y1.l y1 y1.l.v [])))) zu)))))))))))))) (nN [(6,.lt2 0 1 0 1)] (zj (decide (i64.wrap (i64.wrap (i64.wrap (O 2 * y1.i)+O 1)+O 1) < i64.wrap (y1.n - O 1))) (ni127 y1 fun y4=>nN (qE true::(6,.lt 0 1)::ni57 (ni69 y1 c [(1,.eqI 1 1)])) (ni35 y1 c (nN (ni89 c []) (ni83 v v.b y1.m y1 v.x y1.l (ni11 y1.m v y1 c fun y5=>nN (ni128 []) (zj (decide (i64.wrap (i64.wrap (O 2 * y1.i)+O 2) >= i64.wrap (y1.n - O 1))) (ni114 y1.m v y1 c (zfe v.x v.a y1.l y1 v y3 y1.l.v v.b y5 (nN (ni90 v v.a y3 []) (ni45 v v.a y3 y1.m J1 y1 c (zef v v.a y3 c v.b y5 y1 v.x y1.l (nN (qE w::(1,.eqI 6 6)::qE y1.n::ni29 y1 (zfk y1 y1.m v c (ni43 cf []))) (U (O 8=O 6) (nN (qE w::ni29 y1 (qE y1.n::zfk y1 y1.m v c (ni28 c (ni39 v.x v.a y1.l y1 y1.l.v [])))) zu)))))))) (nis3 v y1 y3 y5 J1 c w cf))))))) (ni127 y1 fun y4=>nN (qE true::(6,.lt 0 1)::ni57 (ni69 y1 c [(1,.eqI 1 1)])) (ni35 y1 c (nN (ni89 c []) (ni83 v v.b y1.m y1 v.x y1.l (ni11 y1.m v y1 c fun y5=>nN (ni128 []) (zj (decide (i64.wrap (i64.wrap (O 2 * y1.i)+O 2) >= i64.wrap (y1.n - O 1))) (ni114 y1.m v y1 c (zfe v.x v.a y1.l y1 v y3 y1.l.v v.b y5 (ni97 v v.a y3 y1.m J1 y1 c (zef v v.a y3 c v.b y5 y1 v.x y1.l (nN (ni133 w (qE y1.n::ni29 y1 (zfk y1 y1.m v c (ni43 cf ((1,.eqI 8 8)::qE w::ni29 y1 (qE y1.n::zfk y1 y1.m v c (ni28 c (ni39 v.x v.a y1.l y1 y1.l.v [])))))))) zu))))) (zfe v.x v.a y1.l y1 v y3 y1.l.v v.b y5 (ni97 v v.a y3 y1.m J1 y1 c (zef v v.a y3 c v.b y5 y1 v.x y1.l (nN (ni133 w (qE y1.n::ni29 y1 (zfk y1 y1.m v c (ni43 cf [])))) (U (i64.wrap (O 5+O 1)=O 8) (nN (qE w::ni29 y1 (qE y1.n::zfk y1 y1.m v c (ni28 c (ni39 v.x v.a y1.l y1 y1.l.v [])))) zu))))))))))))))))))))) (nis0 J1 y1 v c w cf ln g J2 I))) (U True zu)) zu)):=by kernel_rfl
abbrev ni60 (a0:XRj) (a1:Mm) (a2:Ev) (a3:Cf) (l:LP):LP:=ni20 a0 (qE (a1.val a2.n (atM (i64.wrap (i64.wrap (O 2 * a0.i)+O 2)) a3.H (O 4) (O 1)))::l)
abbrev ni70 (a0:XRj) (a1:Cf) (l:LP):LP:=qE (i64.wrap (i64.wrap (O 2 * a0.i)+O 2))::qE a1.H::l
abbrev ni84 (a0:XRj) (l:LP):LP:=qE a0.i::qE (i64.wrap (i64.wrap (O 2 * a0.i)+O 2))::l
abbrev ni115 (a0:Mm) (a1:Ev) (a2:XRj) (a3:Cf) (k:V):V:=U (decide (a0.val a1.n (atM (i64.wrap (i64.wrap (O 2 * a2.i)+O 2)) a3.H (O 4) (O 1)) < a2.z)=false) (nN [(6,.lt2 0 1 0 1)] k)
abbrev ni120 (a0:Mm) (a1:Ev) (a2:XRj) (a3:Cf) (k:V):V:=nN [(3,.lt 0 1)] (U (decide (a0.val a1.n (atM (i64.wrap (i64.wrap (O 2 * a2.i)+O 2)) a3.H (O 4) (O 1)) < a2.z)=true) k)
abbrev ni12 (a0:Mm) (a1:Ev) (a2:XRj) (a3:Cf) (k:Mm->V):V:=nN [qX (a0.acc a1.n (O 1) (atM (i64.wrap (i64.wrap (O 2 * a2.i)+O 2)) a3.H (O 4) (O 1)) (a0.val a1.n (atM (i64.wrap (i64.wrap (O 2 * a2.i)+O 2)) a3.H (O 4) (O 1))))] (z9 Mm (fun (m':Mm)=>m'=a0.acc a1.n (O 1) (atM (i64.wrap (i64.wrap (O 2 * a2.i)+O 2)) a3.H (O 4) (O 1)) (a0.val a1.n (atM (i64.wrap (i64.wrap (O 2 * a2.i)+O 2)) a3.H (O 4) (O 1)))) fun v0=>k v0)
abbrev ni36 (a0:XRj) (a1:Cf) (k:V):V:=U (zdc (i64.wrap (i64.wrap (O 2 * a0.i)+O 2)) a1.H (O 4) (O 1)) (nN [qE (atM (i64.wrap (i64.wrap (O 2 * a0.i)+O 2)) a1.H (O 4) (O 1))] k)
theorem vRj5_eq (c:Cf) (v:Ev) (w:Int) (cf ln lc:Nat) (g:Nat->Int) (I:Nat×XRj->Prop) (J1 J2:Int->XRj->Prop):V.pr (.b (.b (.b (.f (.t (.b (.b (.f (.f (.f (.f (.f (.t (.t (.t (.f .z))))))))) (.f (.f (.f (.f (.f (.t (.t (.f (.f .z)))))))))) (.b (.f (.f (.f (.f (.f (.t (.f (.t (.f .z))))))))) (.f (.f (.f (.f (.f (.t (.f (.f (.f .z))))))))))))) .z) .z) .z) (vRjO 5 c v w cf ln lc g I J1 J2)=
 ni126 I v.m v v.a v.b c (nN (zed v (ni99 v.x v.b (ni17 v.b v v.m (zed v (ni95 w (ni43 cf (ni95 w (ni28 c (ni122 v.x v.a (ni121 v.b [])))))))))) (ni51 I fun y0=>zj y0 (z9 XRj (fun (x:XRj)=>I (5,x)) fun y1=>zj (decide (y1.s < O 200)) (nN (ni34 v v.a y1.m c v.b y1 v.x y1.l (qE w::(1,.eqI 6 6)::zfh y1 cf [(1,.eqI 6 6),qE w])) (ni87 y1 c v.x v.a y1.l y1.l.v fun y2=>zj y2 (nN (ni103 v v.a [qE y1.m.ct]) (ni55 v v.a y1.m (nN ((16,.lt2 0 1 0 1)::ni105 ((14,.lt2 0 1 0 1)::ni70 y1 c (ni106 []))) (ni36 y1 c (nN (ni18 v v.a y1.m []) (ni12 y1.m v y1 c fun y3=>zj (decide (y1.m.val v.n (atM (i64.wrap (i64.wrap (O 2 * y1.i)+O 2)) c.H (O 4) (O 1)) < y1.z)) (nN [(6,.lt2 0 1 0 1)] (zj (decide (y1.m.val v.n (atM (i64.wrap (i64.wrap (O 2 * y1.i)+O 2)) c.H (O 4) (O 1)) < y1.y)) (ni127 y1 fun y4=>nN (ni105 (ni57 (ni70 y1 c [(1,.eqI 1 1)]))) (ni36 y1 c (nN (ni89 c []) (ni83 v v.b y1.m y1 v.x y1.l (ni12 y1.m v y1 c fun y5=>ni120 y1.m v y1 c (nN [(9,.lt 0 1),(6,.lt2 0 1 0 1)] (U (decide (y1.m.val v.n (atM (i64.wrap (i64.wrap (O 2 * y1.i)+O 2)) c.H (O 4) (O 1)) < y1.y)=true) (zfe v.x v.a y1.l y1 v y3 y1.l.v v.b y5 (ni91 v v.a y3 y1.m (U (J1 y1.s { y1 with m:=y3,ln:=O 7,c:=i64.wrap (i64.wrap (O 2 * y1.i)+O 2),z:=y1.m.val v.n (atM (i64.wrap (i64.wrap (O 2 * y1.i)+O 2)) c.H (O 4) (O 1)) }) (zef v v.a y3 c v.b y5 y1 v.x y1.l (nN (qE w::(1,.eqI 7 7)::qE y1.n::ni84 y1 (ni60 y1 y1.m v c (ni43 cf ((1,.eqI 7 7)::qE w::ni84 y1 (qE y1.n::ni60 y1 y1.m v c (ni28 c (ni39 v.x v.a y1.l y1 y1.l.v []))))))) zu)))))))))))) (ni127 y1 fun y4=>nN (ni105 (ni57 (ni70 y1 c [(1,.eqI 1 1)]))) (ni36 y1 c (nN (ni89 c []) (ni83 v v.b y1.m y1 v.x y1.l (ni12 y1.m v y1 c fun y5=>ni120 y1.m v y1 c (nN [(9,.lt 0 1),(6,.lt2 0 1 0 1)] (U (decide (y1.m.val v.n (atM (i64.wrap (i64.wrap (O 2 * y1.i)+O 2)) c.H (O 4) (O 1)) < y1.y)=false) (zfe v.x v.a y1.l y1 v y3 y1.l.v v.b y5 (ni91 v v.a y3 y1.m (U (J1 y1.s { y1 with m:=y3,ln:=O 8,c:=i64.wrap (i64.wrap (O 2 * y1.i)+O 2),z:=y1.m.val v.n (atM (i64.wrap (i64.wrap (O 2 * y1.i)+O 2)) c.H (O 4) (O 1)) }) (zef v v.a y3 c v.b y5 y1 v.x y1.l (nN (ni133 w (qE y1.n::ni84 y1 (ni60 y1 y1.m v c (ni43 cf ((1,.eqI 8 8)::qE w::ni84 y1 (qE y1.n::ni60 y1 y1.m v c (ni28 c (ni39 v.x v.a y1.l y1 y1.l.v [])))))))) zu)))))))))))))) (nN [(6,.lt2 0 1 0 1)] (zj (decide (y1.z < y1.y)) (ni127 y1 fun y4=>nN (ni105 (ni57 (ni70 y1 c [(1,.eqI 1 1)]))) (ni36 y1 c (nN (ni89 c []) (ni83 v v.b y1.m y1 v.x y1.l (ni12 y1.m v y1 c fun y5=>nN [(3,.lt 0 1)] (ni115 y1.m v y1 c (U (decide (y1.z < y1.y)=true) (zfe v.x v.a y1.l y1 v y3 y1.l.v v.b y5 (ni91 v v.a y3 y1.m (U (J1 y1.s { y1 with m:=y3,ln:=O 7 }) (zef v v.a y3 c v.b y5 y1 v.x y1.l (nN (qE w::(1,.eqI 7 7)::zfh y1 cf ((1,.eqI 7 7)::qE w::ni46 y1 c v.x v.a y1.l y1.l.v [])) zu)))))))))))) (ni127 y1 fun y4=>nN (ni105 (ni57 (ni70 y1 c [(1,.eqI 1 1)]))) (ni36 y1 c (nN (ni89 c []) (ni83 v v.b y1.m y1 v.x y1.l (ni12 y1.m v y1 c fun y5=>nN [(3,.lt 0 1)] (ni115 y1.m v y1 c (U (decide (y1.z < y1.y)=false) (zfe v.x v.a y1.l y1 v y3 y1.l.v v.b y5 (ni91 v v.a y3 y1.m (U (J1 y1.s { y1 with m:=y3,ln:=O 8 }) (zef v v.a y3 c v.b y5 y1 v.x y1.l (nN (ni133 w (zfh y1 cf ((1,.eqI 8 8)::qE w::ni46 y1 c v.x v.a y1.l y1.l.v []))) zu)))))))))))))))))))) (nis0 J1 y1 v c w cf ln g J2 I))) (U True zu)) zu)):=by kernel_rfl
abbrev ni72 (a0:Mm) (a1:Ev) (a2:XRj) (a3:Cf) (k:Mm->V):V:=nN [qX (a0.acc a1.n (O 2) (atM a2.i a3.H (O 4) (O 1)) a2.z)] (z9 Mm (fun (m':Mm)=>m'=a0.acc a1.n (O 2) (atM a2.i a3.H (O 4) (O 1)) a2.z) fun v0=>k v0)
abbrev ni92 (a0:XRj) (a1:Cf) (k:V):V:=U (zdc a0.i a1.H (O 4) (O 1)) (nN [(3,.lt2 0 1 0 1),qE (atM a0.i a1.H (O 4) (O 1))] k)
theorem vRj6_eq (c:Cf) (v:Ev) (w:Int) (cf ln lc:Nat) (g:Nat->Int) (I:Nat×XRj->Prop) (J1 J2:Int->XRj->Prop):V.pr (.b (.b (.b (.f (.f (.t (.b (.f (.f (.f (.f (.f (.f (.t (.t (.f .z))))))))) (.f (.f (.f (.f (.f (.f (.t (.f (.f .z))))))))))))) .z) .z) .z) (vRjO 6 c v w cf ln lc g I J1 J2)=
 ni126 I v.m v v.a v.b c (nN (zed v (ni99 v.x v.b (ni17 v.b v v.m (zed v (ni95 w (ni43 cf (ni95 w (ni28 c (ni122 v.x v.a (ni121 v.b [])))))))))) (ni51 I fun y0=>zj y0 (z9 XRj (fun (x:XRj)=>I (6,x)) fun y1=>zj (decide (y1.s < O 200)) (nN (ni34 v v.a y1.m c v.b y1 v.x y1.l (qE w::(1,.eqI 7 7)::zfh y1 cf [(1,.eqI 7 7),qE w])) (ni87 y1 c v.x v.a y1.l y1.l.v fun y2=>zj y2 (nN (ni103 v v.a [qE y1.m.ct]) (ni55 v v.a y1.m (nN (ni93 (qE true::(14,.lt2 0 1 0 1)::qE y1.i::qE c.H::ni106 [])) (ni92 y1 c (nN (qE y1.z::ni18 v v.a y1.m []) (ni72 y1.m v y1 c fun y3=>nN [(6,.lt2 0 1 0 1)] (zj (decide (i64.wrap (i64.wrap (O 2 * y1.c)+O 1) < i64.wrap (y1.n - O 1))) (ni127 y1 fun y4=>nN (ni53 (qE true::ni57 [qE y1.i,qE c.H,(1,.eqI 1 1)])) (ni92 y1 c (nN (qE y1.z::ni125 c []) (ni83 v v.b y1.m y1 v.x y1.l (ni72 y1.m v y1 c fun y5=>nN [(6,.lt 0 1),(6,.lt2 0 1 0 1)] (U (decide (i64.wrap (i64.wrap (O 2 * y1.c)+O 1) < i64.wrap (y1.n - O 1))=true) (zfe v.x v.a y1.l y1 v y3 y1.l.v v.b y5 (ni91 v v.a y3 y1.m (U (J1 y1.s { y1 with m:=y3,ln:=O 5,i:=y1.c }) (zef v v.a y3 c v.b y5 y1 v.x y1.l (nN (qE w::(1,.eqI 5 5)::qE y1.n::qE y1.c::qE y1.c::ni21 y1 (ni43 cf ((1,.eqI 5 5)::qE w::qE y1.c::qE y1.c::ni37 y1 (ni28 c (ni39 v.x v.a y1.l y1 y1.l.v []))))) zu))))))))))) (ni127 y1 fun y4=>nN (ni53 (qE true::ni57 [qE y1.i,qE c.H,(1,.eqI 1 1)])) (ni92 y1 c (nN (qE y1.z::ni125 c []) (ni83 v v.b y1.m y1 v.x y1.l (ni72 y1.m v y1 c fun y5=>nN [(6,.lt 0 1),(6,.lt2 0 1 0 1)] (U (decide (i64.wrap (i64.wrap (O 2 * y1.c)+O 1) < i64.wrap (y1.n - O 1))=false) (zfe v.x v.a y1.l y1 v y3 y1.l.v v.b y5 (ni91 v v.a y3 y1.m (U (J1 y1.s { y1 with m:=y3,ln:=O 8,i:=y1.c }) (zef v v.a y3 c v.b y5 y1 v.x y1.l (nN (ni133 w (qE y1.n::qE y1.c::qE y1.c::ni21 y1 (ni43 cf ((1,.eqI 8 8)::qE w::qE y1.c::qE y1.c::ni37 y1 (ni28 c (ni39 v.x v.a y1.l y1 y1.l.v [])))))) zu)))))))))))))))))) (nis0 J1 y1 v c w cf ln g J2 I))) (U True zu)) zu)):=by kernel_rfl
abbrev ni129 (a0:Mm) (a1:Ev) (a2:XRj) (a3:Cf) (k:Mm->V):V:=nN [qX (a0.acc a1.n (O 2) (atM a2.i a3.H (O 4) (O 1)) a2.y)] (z9 Mm (fun (m':Mm)=>m'=a0.acc a1.n (O 2) (atM a2.i a3.H (O 4) (O 1)) a2.y) fun v0=>k v0)
theorem vRj7_eq (c:Cf) (v:Ev) (w:Int) (cf ln lc:Nat) (g:Nat->Int) (I:Nat×XRj->Prop) (J1 J2:Int->XRj->Prop):V.pr (.b (.b (.b (.f (.f (.f (.t (.f (.f (.f (.f (.f (.f (.f (.f (.t .z))))))))))))) .z) .z) .z) (vRjO 7 c v w cf ln lc g I J1 J2)=
 ni126 I v.m v v.a v.b c (nN (zed v (ni99 v.x v.b (ni17 v.b v v.m (zed v (ni95 w (ni43 cf (ni95 w (ni28 c (ni122 v.x v.a (ni121 v.b [])))))))))) (ni51 I fun y0=>zj y0 (z9 XRj (fun (x:XRj)=>I (7,x)) fun y1=>zj (decide (y1.s < O 200)) (nN (ni34 v v.a y1.m c v.b y1 v.x y1.l (ni133 w (zfh y1 cf [(1,.eqI 8 8),qE w]))) (ni87 y1 c v.x v.a y1.l y1.l.v fun y2=>zj y2 (nN (ni103 v v.a [qE y1.m.ct]) (ni55 v v.a y1.m (nN (ni93 (ni105 ((14,.lt2 0 1 0 1)::qE y1.i::qE c.H::ni106 []))) (ni92 y1 c (nN (qE y1.y::ni18 v v.a y1.m []) (ni129 y1.m v y1 c fun y3=>nN [(5,.lt2 0 1 0 1),(1,.leI 0 40),(1,.leI 0 16)] (ni127 y1 fun y4=>nN (ni53 (qE false::ni57 [qE y1.i,qE c.H,(1,.eqI 1 1)])) (ni92 y1 c (nN (qE y1.y::ni125 c []) (ni83 v v.b y1.m y1 v.x y1.l (ni129 y1.m v y1 c fun y5=>nN [(6,.lt2 0 1 0 1)] (ni76 cf (nN (ni26 v.x v.a y1.l []) (ni112 y1 v v.a y3 v.x y1.l y1.l.v v.b y5 (ni91 v v.a y3 y1.m (ni108 y1 (nN (ni26 v.x v.a y1.l []) (ni112 y1 v v.a y3 v.x y1.l y1.l.v v.b y5 (U True zu))))))))))))))))))) (nis0 J1 y1 v c w cf ln g J2 I))) (U True zu)) zu)):=by kernel_rfl
end Go.Proofs.YtdcllkdadffnaaaGreat.En
/- Insert, step by step: the conditions, printed by program. -/
namespace Go.Proofs.YtdcllkdadffnaaaGreat.En
open Go Go.RowKit Sx Cn Dc Ck Vc Md
end Go.Proofs.YtdcllkdadffnaaaGreat.En
/- Insert, step by step: the conditions hold. -/
namespace Go.Proofs.YtdcllkdadffnaaaGreat.En
open Go Go.RowKit Sx Cn Dc Ck Vc Md
def wW (x:Int):Prop:=0<=x/\x<=18446744073709551615
theorem ct_no {m x:Mm} {n:Nat} {k a y b:Int} (hm:okMw b m) (hb2:b<=9000000000) (hb:decide (x.ct > i64.wrap (m.ct+O 1))=true) (h:x=m.acc n k a y):False:=by
 subst h
 have h1:=hm.2.1
 have h2:=hm.2.2
 have h3:i64.wrap (m.ct+1)=m.ct+1:=w64 (by omega)
 have hb:(m.acc n k a y).ct > i64.wrap (m.ct+1):=of_decide_eq_true hb
 unfold Mm.acc at hb
 cases hi:inb n a with
 | false=>
  rw [hi] at hb
  have hb:m.ct > i64.wrap (m.ct+1):=hb
  omega
 | true=>
  rw [hi] at hb
  have hb:i64.wrap (m.ct+1) > i64.wrap (m.ct+1):=hb
  omega
theorem val_ok {m:Mm} {b:Int} {n:Nat} {a:Int} (h:okMw b m):wW (m.val n a):=by
 unfold Mm.val
 cases inb n a with
 | false=>exact ⟨Int.le_refl 0,(by decide:(0:Int)<=18446744073709551615)⟩
 | true=>exact h.1 _
theorem s_lt {x:Int} (h:decide (x < O 200)=true):x < 200:=of_decide_eq_true h
theorem at_ok {c i:Int} (h:c<=1000000):zdc i c (O 4) (O 1):=by
 refine ⟨fun h1 h2=>?_,?_,?_⟩<;>simp only [zq] at *<;>omega
theorem gt_le {a b:Int} (g:decide (a<=b)=true) (h:decide (a > b)=true):False:=by
 have h1:a > b:=of_decide_eq_true h
 have h2:a<=b:=of_decide_eq_true g
 omega
theorem ngt_nle {a b:Int} (g:decide (a<=b)=false) (h:decide (a > b)=false):False:=by
 have h1:¬ (a > b):=of_decide_eq_false h
 have h2:¬ (a<=b):=of_decide_eq_false g
 omega
theorem z_ok:wW (O 0):=⟨Int.le_refl 0,(by decide:(0:Int)<=18446744073709551615)⟩
end Go.Proofs.YtdcllkdadffnaaaGreat.En
/- Remove, step by step: the conditions hold. -/
namespace Go.Proofs.YtdcllkdadffnaaaGreat.En
open Go Go.RowKit Sx Cn Dc Ck Vc Md
def rRj (x:XRj):Prop:=wW x.x/\wW x.y/\wW x.z/\(1<=x.ln/\x.ln<=8)/\(x.ln<=4->x.i=0)/\x.l.n<=x.na/\x.l.n<=x.nb
def iRj (x:Nat×XRj):Prop:=x.1 < 8/\0<=x.2.s/\okMw (2000000+2 * x.2.s) x.2.m/\(x.2.l.n:Int)<=x.2.s/\wW x.2.x/\wW x.2.y/\wW x.2.z/\(x.1 < 4->x.2.i=0)/\x.2.l.n<=x.2.na/\x.2.l.n<=x.2.nb
def jRj (b q:Int) (x:XRj):Prop:=okMw (2000000+2 * q+b) x.m/\(x.l.n:Int)<=q+1/\rRj x
section
variable {x y:XRj} {m:Mm} {n:Nat} {k a v:Int} {j:Nat}
theorem rn_x (h:iRj (j,x)):wW x.x:=h.2.2.2.2.1
theorem rn_y (h:iRj (j,x)):wW x.y:=h.2.2.2.2.2.1
theorem rn_z (h:iRj (j,x)):wW x.z:=h.2.2.2.2.2.2.1
theorem rn_v (h:iRj (j,x)):wW (x.m.val n a):=val_ok h.2.2.1
theorem rn_i0 (h:iRj (j,x)) (hj:j < 4):x.i=0:=h.2.2.2.2.2.2.2.1 hj
theorem rn_na (h:iRj (j,x)):x.l.n<=x.na:=h.2.2.2.2.2.2.2.2.1
theorem rn_nb (h:iRj (j,x)):x.l.n<=x.nb:=h.2.2.2.2.2.2.2.2.2
theorem rn_e (h:iRj (j,x)):x.l.n<=x.na/\x.l.n<=x.nb/\(x.l.n:Int)<=x.s+1:=by
 have h1:(x.l.n:Int)<=x.s:=h.2.2.2.1
 exact ⟨rn_na h,rn_nb h,by omega⟩
theorem rn_e1 (h:iRj (j,x)) {a b:Nat} {e:Evs} (ha:x.l.n+1<=a) (hb:x.l.n+1<=b):(El.mk (x.l.n+1) e).n<=a/\(El.mk (x.l.n+1) e).n<=b/\((El.mk (x.l.n+1) e).n:Int)<=x.s+1:=by
 have h1:(x.l.n:Int)<=x.s:=h.2.2.2.1
 exact ⟨ha,hb,(by show ((x.l.n+1:Nat):Int)<=x.s+1; omega)⟩
theorem rn_sz (h:iRj (j,x)) (hs:decide (x.s < O 200)=true):x.l.n+1<=9223372036854775807/\(x.l.n+1) * 40<=140737488355328:=by
 have h1:(x.l.n:Int)<=x.s:=h.2.2.2.1
 have:=s_lt hs
 omega
theorem rn_ct (hi:iRj (j,x)) (hs:decide (x.s < O 200)=true) (h:m=x.m.acc n k a v):decide (m.ct > i64.wrap (x.m.ct+O 1))=false:=by
 have:=s_lt hs
 cases hb:decide (m.ct > i64.wrap (x.m.ct+O 1)) with
 | false=>rfl
 | true=>exact (ct_no hi.2.2.1 (by show 2000000+2 * x.s<=9000000000; omega) hb h).elim
theorem rn_j {now l i n' c xx yy zz:Int} {e:El} {na nb:Nat} (hi:iRj (j,x)) (hs:decide (x.s < O 200)=true) (h:m=x.m.acc n k a v) (hv:wW v) (hx:wW xx) (hy:wW yy) (hz:wW zz) (hl:1<=l/\l<=8) (h0:l<=4->i=0) (he:e.n<=na/\e.n<=nb/\(e.n:Int)<=x.s+1):jRj 1 x.s ⟨x.s,m,now,l,n',i,c,xx,yy,zz,e,na,nb⟩:=by
 have:=s_lt hs
 subst h
 exact ⟨zgt hi.2.2.1 (by show 2000000+2 * x.s<=9000000000; omega) hv,he.2.2,hx,hy,hz,hl,h0,he.1,he.2.1⟩
theorem rn_i (hi:iRj (j,x)) (hs:decide (x.s < O 200)=true) (h:jRj 2 x.s y):iRj ((y.ln - O 1).toNat,⟨i64.wrap (x.s+O 1),y.m,y.now,y.ln,y.n,y.i,y.c,y.x,y.y,y.z,y.l,y.na,y.nb⟩):=by
 have h1:=s_lt hs
 have h2:0<=x.s:=hi.2.1
 have h3:i64.wrap (x.s+O 1)=x.s+1:=w64 (by simp only [zq]; omega)
 have h4:=h.2.2.2.2.2.1
 rw [h3]
 exact ⟨(by show (y.ln - ((1:Nat):Int)).toNat < 8; omega),(by show 0<=x.s+1; omega),h.1.le (by show _<=2000000+2 * (x.s+1); omega),h.2.1,h.2.2.1,h.2.2.2.1,h.2.2.2.2.1,fun hq=>h.2.2.2.2.2.2.1 (by have hq:(y.ln - ((1:Nat):Int)).toNat < 4:=hq; omega),h.2.2.2.2.2.2.2⟩
theorem rn_mu (hi:iRj (j,x)) (hs:decide (x.s < O 200)=true):(O 200 - i64.wrap (x.s+O 1)).toNat < (O 200 - x.s).toNat:=by
 have h1:=s_lt hs
 have h2:0<=x.s:=hi.2.1
 have h3:i64.wrap (x.s+O 1)=x.s+1:=w64 (by simp only [zq]; omega)
 rw [h3]
 simp only [zq]
 omega
theorem rn_t2 {q s now n' c:Int} (h:jRj 2 q x):jRj 2 q ⟨s,x.m,now,x.ln,n',x.i,c,x.x,x.y,x.z,x.l,x.na,x.nb⟩:=⟨h.1,h.2⟩
theorem rn_t1 {q s now n' c:Int} (h:jRj 1 q x):jRj 2 q ⟨s,x.m,now,x.ln,n',x.i,c,x.x,x.y,x.z,x.l,x.na,x.nb⟩:=⟨h.1.le (by omega),h.2⟩
theorem rn_td {q s now n' c:Int} (h:jRj 1 q x) (hm:okMw (x.m.ct+O 1) m):jRj 2 q ⟨s,m,now,x.ln,n',x.i,c,x.x,x.y,x.z,x.l,x.na,x.nb⟩:=⟨hm.le (by have:=h.1.2.2; simp only [zq]; omega),h.2⟩
theorem rn_0 {now ln n c:Int} {e:Evs} {na nb:Nat} (h:okMw 2000000 m):iRj ((O 1 - O 1).toNat,⟨O 0,m,now,ln,n,O 0,c,O 0,O 0,O 0,⟨0,e⟩,na,nb⟩):=⟨(by show 0 < 8; decide),Int.le_refl 0,h.le (by show (2000000:Int)<=2000000+2 * 0; decide),Int.le_refl 0,z_ok,z_ok,z_ok,fun _=>rfl,zg _,zg _⟩
theorem rn_okcm {c:Cf} {v:Ev} {now:Int} {k:Rk} {e:Evs} (h:okMi c v) (hi:iRj (j,x)) (hs:decide (x.s < O 200)=true) (hk:k=v.x) {ne:Nat} (hn:ne<=x.l.n+1):okCm ⟨v.n,m,now,k,ne,e⟩:=by
 have h1:=s_lt hs
 have h2:(x.l.n:Int)<=x.s:=hi.2.2.2.1
 subst hk
 exact ⟨h.2.2.1,h.2.2.2.1,(by show ne<=1000000; omega)⟩
theorem rn_ln {b q:Int} (h:jRj b q x):x.ln=O ((x.ln - O 1).toNat+1):=by
 have:=h.2.2.2.2.2.1
 simp only [zq] at *
 omega
theorem rn_di {n:Nat} (hn:n<=1000000) (hi:iRj (j,x)) (hs:decide (x.s < O 200)=true) (h:jRj 1 x.s y):n<=1000000/\okMw (O 1000000000) y.m:=by
 have h1:=s_lt hs
 exact ⟨hn,h.1.le (by simp only [zq]; omega)⟩
theorem rn_ex {q:Int} (h:jRj 1 q y):∃ m,okMw (y.m.ct+O 1) m:=⟨y.m,h.1.now.le (by simp only [zq]; omega)⟩
theorem rn_r (hi:iRj (j,x)) (h:decide (x.s < (n:Int))=true):O 0<=x.s/\x.s < n:=⟨hi.2.1,of_decide_eq_true h⟩
theorem rn_r2 (hi:iRj (j,x)) (h:decide (x.s < (n:Int))=true):0 < 1/\0+x.s.toNat < n:=by
 have h1:0<=x.s:=hi.2.1
 have h2:x.s < n:=of_decide_eq_true h
 omega
theorem rn_c1 (hi:iRj (3,x)) (h:decide (i64.wrap (i64.wrap (O 2 * x.i)+O 1) < a)=true) (h2:decide (O 1 < a)=false):False:=by
 have e:i64.wrap (i64.wrap (O 2 * x.i)+O 1)=O 1:=by rw [rn_i0 hi (by decide)]; decide
 rw [e,h2] at h
 cases h
theorem rn_c2 (hi:iRj (3,x)) (h:decide (i64.wrap (i64.wrap (O 2 * x.i)+O 1) < a)=false) (h2:decide (O 1 < a)=true):False:=by
 have e:i64.wrap (i64.wrap (O 2 * x.i)+O 1)=O 1:=by rw [rn_i0 hi (by decide)]; decide
 rw [e,h2] at h
 cases h
end
theorem plus2 (a:Int):i64.wrap (i64.wrap (a+O 1)+O 1)=i64.wrap (a+O 2):=by
 simp only [IntKind.wrap,IntKind.bits,IntKind.signed,zq]
 simp
 split<;>split<;>omega
theorem rn_p1 {a b:Int} (h:decide (i64.wrap (i64.wrap (a+O 1)+O 1) < b)=true) (h2:decide (i64.wrap (a+O 2) >= b)=true):False:=by
 rw [plus2] at h
 have h:=of_decide_eq_true h
 have h2:=of_decide_eq_true h2
 omega
theorem rn_p2 {a b:Int} (h:decide (i64.wrap (i64.wrap (a+O 1)+O 1) < b)=false) (h2:decide (i64.wrap (a+O 2) >= b)=false):False:=by
 rw [plus2] at h
 have h:=of_decide_eq_false h
 have h2:=of_decide_eq_false h2
 omega
theorem ev_c {i e n m:Nat} {a a' b:Int} (h:i=0/\e < m) (ha:a=a'):(if i=0/\e=n then a else b)=if 0=0/\e=n then a' else b:=by rw [h.1,ha]
theorem ev_dd {e n:Nat} {a a' b:Int} (ha:a=a'):(if 0=0/\e=n then a else b)=if 0=0/\e=n then a' else b:=by rw [ha]
theorem tk_e (x:Int):i64.wrap (bits .and .u64 x (O 65535))=tkW x:=rfl
theorem tk_b (x:Int):(i64.wrap (bits .and .u64 x (O 65535)) == tkW x)=true:=beq_self_eq_true _
theorem vhRjA {c:Cf} {v:Ev} {w:Int} {cf ln lc:Nat} {g:Nat->Int} (h:okMi c v):zae (vRjO 0 c v w cf ln lc g iRj (jRj 1) (jRj 2))/\zae (vRjO 1 c v w cf ln lc g iRj (jRj 1) (jRj 2))/\zae (vRjO 2 c v w cf ln lc g iRj (jRj 1) (jRj 2))/\zae (vRjO 3 c v w cf ln lc g iRj (jRj 1) (jRj 2))/\zae (vRjO 4 c v w cf ln lc g iRj (jRj 1) (jRj 2))/\zae (vRjO 5 c v w cf ln lc g iRj (jRj 1) (jRj 2))/\zae (vRjO 6 c v w cf ln lc g iRj (jRj 1) (jRj 2))/\zae (vRjO 7 c v w cf ln lc g iRj (jRj 1) (jRj 2)):=by
 obtain ⟨h0,h1,h2,h3,h4,h5,h6⟩:=id h
 refine ⟨zae.pr (vRj0_eq ..) ?_,zae.pr (vRj1_eq ..) ?_,zae.pr (vRj2_eq ..) ?_,zae.pr (vRj3_eq ..) ?_,zae.pr (vRj4_eq ..) ?_,zae.pr (vRj5_eq ..) ?_,zae.pr (vRj6_eq ..) ?_,zae.pr (vRj7_eq ..) ?_⟩
 all_goals (with_reducible repeat' first | exact V.okI | refine V.brT ?_ | refine V.brF ?_ | refine V.brI ?_ ?_ | refine V.anyI ?_ | refine nN_h rfl ?_ | refine V.needI ?_ ?_ | intro _)
 all_goals first
  | assumption
  | exact True.intro
  | exact zg _
  | exact ⟨Z _,by assumption⟩
  | exact ⟨h2,h3,zg _⟩
  | exact Z _
  | exact ⟨Z _,rfl⟩
  | exact rn_x ‹_›
  | exact rn_y ‹_›
  | exact rn_z ‹_›
  | exact rn_ct ‹_› ‹_› ‹_›
  | exact rn_okcm h ‹_› ‹_› rfl (by first | exact Nat.le_succ _ | exact Z _)
  | exact rn_j ‹_› ‹_› ‹_› (by first | exact rn_x ‹_› | exact rn_y ‹_› | exact rn_z ‹_› | exact rn_v ‹_› | exact zdz _) (by first | exact rn_x ‹_› | exact rn_y ‹_› | exact rn_z ‹_› | exact rn_v ‹_› | exact zdz _) (by first | exact rn_x ‹_› | exact rn_y ‹_› | exact rn_z ‹_› | exact rn_v ‹_› | exact zdz _) (by first | exact rn_x ‹_› | exact rn_y ‹_› | exact rn_z ‹_› | exact rn_v ‹_› | exact zdz _) (by decide) (by first | exact fun hq=>absurd hq (by decide) | exact fun _=>rn_i0 ‹_› (by decide)) (by first | exact rn_e ‹_› | exact rn_e1 ‹_› ‹_› ‹_›)
  | exact rn_t2 ‹_›
  | exact rn_t1 ‹_›
  | exact rn_td ‹_› ‹_›
  | exact rn_i ‹_› ‹_› ‹_›
  | exact rn_mu ‹_› ‹_›
  | exact at_ok h0
  | exact rn_ln ‹_›
  | exact rn_di h2 ‹_› ‹_› ‹_›
  | exact rn_ex ‹_›
  | exact rn_r ‹_› ‹_›
  | exact rn_r2 ‹_› ‹_›
  | exact rn_0 h6
  | exact rn_sz ‹_› ‹_›
  | exact (And.left ‹_›)
  | exact ⟨(0,0),trivial⟩
  | exact ⟨v.m,trivial⟩
  | exact ⟨zg _,zg _⟩
  | exact ⟨Z _,rn_na ‹_›⟩
  | exact ⟨Z _,rn_nb ‹_›⟩
  | exact ⟨by decide,by decide,Int.natCast_nonneg _⟩
  | exact ev_c ‹_› (by first | rfl | exact tk_e _ | exact (tk_e _).symm)
  | exact ev_dd (by first | rfl | exact tk_e _ | exact (tk_e _).symm)
  | exact tk_b _
  | exact (rn_i0 ‹_› (by decide)).symm
  | (subst_vars; rfl)
  | (exfalso; exact gt_le (by with_reducible assumption) (by with_reducible assumption))
  | (exfalso; exact ngt_nle (by with_reducible assumption) (by with_reducible assumption))
  | (exfalso; exact rn_p1 (by with_reducible assumption) (by with_reducible assumption))
  | (exfalso; exact rn_p2 (by with_reducible assumption) (by with_reducible assumption))
  | (exfalso; exact rn_c1 (by with_reducible assumption) (by with_reducible assumption) (by with_reducible assumption))
  | (exfalso; exact rn_c2 (by with_reducible assumption) (by with_reducible assumption) (by with_reducible assumption))
  | decide
  | trace_state
theorem vhRj {c:Cf} {v:Ev} {w:Int} {cf ln lc:Nat} {g:Nat->Int} (h:okMi c v):zae (vRj c v w cf ln lc g iRj (jRj 1) (jRj 2)):=
 verO_h (k:=8) (m:=1) (by decide) fun j hj=>by
  have a:=vhRjA (w:=w) (cf:=cf) (ln:=ln) (lc:=lc) (g:=g) h
  match j,hj with
  | 0,_=>exact a.1
  | 1,_=>exact a.2.1
  | 2,_=>exact a.2.2.1
  | 3,_=>exact a.2.2.2.1
  | 4,_=>exact a.2.2.2.2.1
  | 5,_=>exact a.2.2.2.2.2.1
  | 6,_=>exact a.2.2.2.2.2.2.1
  | 7,_=>exact a.2.2.2.2.2.2.2
end Go.Proofs.YtdcllkdadffnaaaGreat.En
/- Environments that agree: what a law needs of them. -/
namespace Go.Proofs.YtdcllkdadffnaaaGreat.En
open Go Go.RowKit Sx Cn Dc Ck Vc Md
theorem nc_4 {c:Cf} (h:okY c):4<=ncN c/\ncN c<=1000000:=by
 have W:=(wy h).t
 have hn:=nc_bd h
 obtain ⟨h1,h2,h3,h4,h5,h6⟩:=h
 unfold ncN ncI at *
 omega
theorem ev_ex {c:Cf} (h:okY c):∃ v,okEv c v:=by
 have hT:c.T.toNat<=1000000:=by have:=h.2.2.2.1; omega
 exact ⟨⟨clOf c (fun e=>c.lenP e) c.nP c.nU,ncN c,⟨fun _=>0,0,0,0,0,0⟩,⟨c.T.toNat,fun _=>0,fun _=>0,fun _=>0,fun _=>0,fun _=>0,fun _=>0,fun _ _=>0,fun _=>false⟩,0,0,⟨ncN c,c.T.toNat,fun _=>0,0⟩,⟨ncN c,c.T.toNat,fun _=>0,0⟩⟩,
  is_cl c,rfl,rfl,⟨hT,fun _=>zg _⟩,fun _ _=>zg _,fun _ _=>zg _,Z _,Z _,Z _,Z _,fun _=>⟨Int.le_refl 0,(by decide:(0:Int)<=18446744073709551615)⟩,Int.le_refl 0,(by decide:(0:Int)<=1000000)⟩
section
variable {c:Cf} {v:Ev}
theorem ev_d (h:okEv c v):v.d.W=c.W/\v.d.L=c.L/\v.d.C=c.C/\v.d.T=c.T/\v.d.D=c.D/\v.d.H=c.H/\v.d.B=c.B/\v.d.A=c.A/\v.d.P=c.P:=by
 obtain ⟨⟨FD,rd,cd,hcl,e2⟩,_⟩:=h
 rw [e2]
 exact ⟨rfl,rfl,rfl,rfl,rfl,rfl,rfl,rfl,rfl⟩
theorem ev_ka (h:okEv c v) {i:Nat} (hi:i < v.x.n):v.x.kl i<=upto v.x.n v.x.kl i/\v.x.kl i<=v.a.k i:=⟨by unfold upto; rw [if_pos hi]; exact Z _,h.2.2.2.2.1 i hi⟩
theorem ev_kb (h:okEv c v) {i:Nat} (hi:i < v.x.n):v.x.kl i<=upto v.x.n v.x.kl i/\v.x.kl i<=v.b.k i:=⟨by unfold upto; rw [if_pos hi]; exact Z _,h.2.2.2.2.2.1 i hi⟩
theorem ev_ra (h:okEv c v):v.x.n<=v.x.n/\v.x.n<=v.a.r:=⟨Z _,h.2.2.2.2.2.2.2.2.1⟩
theorem ev_rb (h:okEv c v):v.x.n<=v.x.n/\v.x.n<=v.b.r:=⟨Z _,h.2.2.2.2.2.2.2.2.2.1⟩
end
end Go.Proofs.YtdcllkdadffnaaaGreat.En
