/- Places in the reference's layout, whether they are there or not: what is asked. -/
import Derived.Test.YtmbploaccpecbaaGreatMMdLo
import Derived.Test.YtmbploaccpecbaaGreatMMdRk
import Derived.Test.YtmbploaccpecbaaGreatMW
import Derived.Test.YtmbploaccpecbaaGreatMV
import Derived.Test.YtmbploaccpecbaaGreatMEn
import Derived.Test.YtmbploaccpecbaaGreatMMd
import Derived.Test.YtmbploaccpecbaaGreatMMd
set_option maxHeartbeats 64000000
set_option linter.unusedVariables false
set_option linter.unusedSimpArgs false
set_option maxRecDepth 100000
open Int (ofNat)
open Go.IntKind (i64 u64)
namespace Go.Proofs.YtmbploaccpecbaaGreat.En
open Go Go.RowKit Sx Cn Dc Ck Vc Md
noncomputable section
def vIxT (f i n w:Int):V:=verF P con0 3 4 fIx [] .nil [iv f,iv i,iv n,iv w] ⟨[],0,fun _=>True⟩ (finI .i64 fun r=>r=atM i n f w)
end
end Go.Proofs.YtmbploaccpecbaaGreat.En
/- Places: the conditions, printed by program. -/
namespace Go.Proofs.YtmbploaccpecbaaGreat.En
open Go Go.RowKit Sx Cn Dc Ck Vc Md
theorem vIxT_eq (f i n w:Int):V.pr .z (vIxT f i n w)=
 V.br (decide (i < ofNat 0)) (V.need (Int.negSucc 0=atM i n f w) (nN [qE (Int.negSucc 0)] (V.ok))) (V.br (decide (i >= n)) (V.need (Int.negSucc 0=atM i n f w) (nN [qE (Int.negSucc 0)] (V.ok))) (V.need (i64.wrap (f+i64.wrap (i * w))=atM i n f w) (nN [qE (i64.wrap (f+i64.wrap (i * w)))] V.ok))):=by kernel_rfl
end Go.Proofs.YtmbploaccpecbaaGreat.En
/- Places, keys: said as they are: the contracts. -/
namespace Go.Proofs.YtmbploaccpecbaaGreat.En
open Go Go.RowKit Sx Cn Dc Ck Vc Md
theorem vhIxT {i n f w:Int} (h:zdz i n f w):zae (vIxT f i n w):=by
 refine zae.pr (vIxT_eq ..) ?_
 by_cases hi:i < 0\/n<=i
 ·have e:atM i n f w=-1:=by unfold atM; rw [if_pos hi]
  rw [e]
  (repeat' first | with_reducible exact V.okI | with_reducible refine V.brT ?_ | with_reducible refine V.brF ?_ | with_reducible refine V.brI ?_ ?_ | with_reducible refine V.anyI ?_ | with_reducible refine nN_h rfl ?_ | with_reducible refine V.needI ?_ ?_ | with_reducible intro _)
  all_goals (simp only [decide_eq_true_eq,decide_eq_false_iff_not,Int.ofNat_eq_natCast,Bool.not_eq_true',Bool.not_eq_false',ge_iff_le,gt_iff_lt,Bool.and_eq_true,Bool.or_eq_true,Bool.not_eq_true,Bool.and_eq_false_iff] at *)
  all_goals first | omega | rfl | trace_state
 ·have e:atM i n f w=f+i * w:=by unfold atM; rw [if_neg hi]
  obtain ⟨h1,h2,h3⟩:=h
  have h1:=h1 (by omega) (by omega)
  rw [e,w64 (show _ by omega:-9223372036854775808<=i * w/\i * w<=9223372036854775807),w64 (by omega)]
  (repeat' first | with_reducible exact V.okI | with_reducible refine V.brT ?_ | with_reducible refine V.brF ?_ | with_reducible refine V.brI ?_ ?_ | with_reducible refine V.anyI ?_ | with_reducible refine nN_h rfl ?_ | with_reducible refine V.needI ?_ ?_ | with_reducible intro _)
  all_goals (simp only [decide_eq_true_eq,decide_eq_false_iff_not,Int.ofNat_eq_natCast,Bool.not_eq_true',Bool.not_eq_false',ge_iff_le,gt_iff_lt,Bool.and_eq_true,Bool.or_eq_true,Bool.not_eq_true,Bool.and_eq_false_iff] at *)
  all_goals first | omega | rfl | trace_state
noncomputable section
def outX (k:IntKind) (p:Prop) (x:Int):Out (SV×Hp):=.need p (.leaf (.c (.iv k x),⟨[],0,fun _=>True⟩))
theorem bare {f:FuncId} {args:List SV} {k:IntKind} {p:Prop} {x:Int} (h:zah P f args [] 0 (.need p (.any Int (fun r=>r=x) fun r=>.leaf (.c (.iv k r),⟨[],0,fun _=>True⟩)))):zah P f args [] 0 (outX k p x):=
 h.mono fun K hK=>⟨hK.1,⟨_,rfl⟩,fun r hr=>by subst hr; exact hK.2⟩
def xAt:List SV->Hp->Out (SV×Hp):=fun args H=>match nums args with
 | some [i,n,f,w]=>useP [] 0 [iv i,iv n,iv f,iv w] [] (outX .i64 (zdz i n f w) (atM i n f w)) args H
 | _=>.bad 484
theorem xAt_ok:zab P fAt xAt:=zac fun args H=>by
 unfold xAt
 repeat' split
 all_goals first | exact .inl ⟨_,rfl⟩ | exact .inr ⟨_,_,_,_,_,rfl,bare (zad zai.nil fun h=>vhAtT h)⟩
def xIx:List SV->Hp->Out (SV×Hp):=fun args H=>match nums args with
 | some [f,i,n,w]=>useP [] 0 [iv f,iv i,iv n,iv w] [] (outX .i64 (zdz i n f w) (atM i n f w)) args H
 | _=>.bad 484
theorem xIx_ok:zab P fIx xIx:=zac fun args H=>by
 unfold xIx
 repeat' split
 all_goals first | exact .inl ⟨_,rfl⟩ | exact .inr ⟨_,_,_,_,_,rfl,bare (zad zai.nil fun h=>vhIxT h)⟩
def outXP (d a t:Int):Out (SV×Hp):=.leaf (.t [.c (uw (pkW d a t)),.c (.bv (pkB d a t))],⟨[],0,fun _=>True⟩)
theorem bareP {f:FuncId} {d a t:Int} (h:zah P f [iv d,iv a,iv t] [] 0 (.need True (.any (Int×Bool) (fun p=>p=(pkW d a t,pkB d a t)) fun p=>.leaf (.t [.c (uw p.1),.c (.bv p.2)],⟨[],0,fun _=>True⟩)))):zah P f [iv d,iv a,iv t] [] 0 (outXP d a t):=
 h.mono fun K hK=>⟨trivial,⟨_,rfl⟩,fun r hr=>by subst hr; exact hK⟩
def xPk:List SV->Hp->Out (SV×Hp):=fun args H=>match nums args with
 | some [d,a,t]=>useP [] 0 [iv d,iv a,iv t] [] (outXP d a t) args H
 | _=>.bad 484
theorem xPk_ok:zab P fPack xPk:=zac fun args H=>by
 unfold xPk
 repeat' split
 all_goals first | exact .inl ⟨_,rfl⟩ | exact .inr ⟨_,_,_,_,_,rfl,bareP (zad zai.nil fun _=>vhPack)⟩
theorem xRP_ok:zab P fRP xPk:=zac fun args H=>by
 unfold xPk
 repeat' split
 all_goals first | exact .inl ⟨_,rfl⟩ | exact .inr ⟨_,_,_,_,_,rfl,bareP (zad conPk_ok fun _=>vhRP)⟩
def xRU:List SV->Hp->Out (SV×Hp):=fun args H=>match nums args with
 | some [k]=>useP [] 0 [.c (uw k)] [] (.need (0<=k/\k<=18446744073709551615) (.any (Int×Int) (fun _=>True) fun p=>.leaf (.t [.c (i6 p.1),.c (i6 p.2),.c (i6 (tkW k))],⟨[],0,fun _=>True⟩))) args H
 | _=>.bad 484
theorem xRU_ok:zab P fRU xRU:=zac fun args H=>by
 unfold xRU
 repeat' split
 all_goals first | exact .inl ⟨_,rfl⟩ | exact .inr ⟨_,_,_,_,_,rfl,(zad conPk_ok fun h=>vhRU h).mono fun K hK=>⟨hK.1,⟨(0,0,_),rfl⟩,fun p hp=>by have:=hK.2.2 (p.1,p.2.1) trivial; rw [<- hp] at this; exact this⟩⟩
end
end Go.Proofs.YtmbploaccpecbaaGreat.En
/- Insert of the injector, step by step with the reference's: what is asked. -/
namespace Go.Proofs.YtmbploaccpecbaaGreat.En
open Go Go.RowKit Sx Cn Dc Ck Vc Md
noncomputable section
def fMt:FuncId:=10
def tFr:TypeId:=48
def tMa:TypeId:=96
def eVw (c:Cf) (v:Ev):Blk:=.view 1 (fun _=>1) ([c.W,c.L,c.C,c.T,c.D,c.H,c.B,c.A,c.P].map (fun x=>ck1 (i6 x))++[.cu,.cu]++(layL c).map ck1++[ck1 (.ptr 1 (.k 0) (.k 0) 0 6),ck1 (.ptr 3 (.k 0) (.k 0) 0 2),ck1 (slK 4 7 v.x.n v.a.r),ck1 (slK 6 5 0 v.a.e)])
def evV:Blk:=.view 1 (fun _=>0) noEv
def z6:SC:=.ki .i64 0
def zU:SC:=.ki .u64 0
def frF (kind:Int) (ln a b d i j n t u v w x:SC):List Col:=[ck1 (.ki .i64 kind),ck1 ln,ck1 z6,ck1 z6,ck1 z6,ck1 z6,ck1 a,ck1 b,ck1 d,ck1 i,ck1 j,ck1 n,ck1 t,ck1 u,ck1 v,ck1 w,ck1 x,ck1 .nils]
def maB (k n cap:Nat):Blk:=.own tMa 4 ([.slc k (.k 0) (.k 0) 18 (.k n) (.s cap),.kb false,.ki .i64 0,.ki .i64 0].map some)
def hMt (c:Cf) (v:Ev) (mb:Blk) (fc:List Col) (cf:Nat) (ln:Nat) (g:Nat->Int):HL:=[(0,eVw c v),(1,pmB 2 v.n v.a.c v.m),(2,wRow v.a.c v.n v.m),(3,clkB v.now v.dr),(4,v.x.rowV 5 v.a.k),(5,v.x.famV),(6,evV),
 (7,(eR c v).b 12 13 8 9 11),(8,wRow v.b.c v.n v.m),(9,v.x.rowV 10 v.b.k),(10,v.x.famV),(11,evV),(12,dum 1),(13,dum 3),(14,mb),(15,maB 16 1 cf),(16,.row tFr cf 1 fc),(17,.view 1 (fun _=>ln) [.ci .i64 fun _ e=>g e])]
def ekK (t:Nat) (s:St):Nat:=scK (zaw (tmK t s) 23 s.H.h)
def frKi (t:Nat) (s:St):Nat:=scK (zaw (tmK t s) 0 s.H.h)
def tmV (t:Nat) (s:St):Option SV:=(s.tmps[t]?).join
structure XIj where
 s:Int
 m:Mm
 now:Int
 ln:Int
 n:Int
 i:Int
 k:Int
 x:Int
def insB (d t:Int) (ln n i k x:SC):Blk:=.own 102 10 ([.kb false,.ki .i64 0,.ki .i64 0,i6 d,i6 t,ln,n,i,k,x].map some)
def insX:SC:=.ifc 98 14 (.k 0) (.k 0) 0 10
def insF (d t:Int) (ln n i k x:SC):List Col:=frF 10 ln (i6 d) (i6 t) z6 i z6 n z6 zU zU k x
def laIj (d t:Int) (I:XIj->Prop) (s:St):Option (LA XIj):=match pmBs 0 s,rmBs 1 s,find (ekK 0 s) s.H.h,find (tmK 3 s) s.H.h,find (frKi 3 s) s.H.h,tmV 2 s with
 | some p,some r,some (.own tk sk (_::ck)),some bm,some (.row tf cf nf _),some x2=>some ⟨[(envM 0,true),(envC 0,true),(tmK 1,true),(renC 1,true),(ekK 0,true),(tmK 2,false),(tmK 3,true),(frKi 3,true)],
   fun x=>p x.m++(match r x.m with
    | [.own te se cs,b]=>[.own te se (cs.set 17 (some (i6 x.now))),b]
    | l=>l)++[.own tk sk (some (i6 x.now)::ck),insB d t (i6 x.ln) (i6 x.n) (i6 x.i) (uw x.k) (uw x.x),bm,.row tf cf nf (insF d t (i6 x.ln) (i6 x.n) (i6 x.i) (uw x.k) (uw x.x))],[13,2],fun x=>[iv x.s,x2],
   fun s=>fN (tmK 2 s) fun kx=>match tmI 13 s,rdMm s.H.h (envM 0 s),ceI (ekK 0 s) 0 s.H.h,ceI kx 5 s.H.h,ceI kx 6 s.H.h,ceI kx 7 s.H.h,ceI kx 8 s.H.h,ceI kx 9 s.H.h with | some q,some y,some w,some l,some n,some i,some k,some x=>some ⟨q,y.m,w,l,n,i,k,x⟩ | _,_,_,_,_,_,_,_=>none,I,fun x=>(200 - x.s).toNat⟩
 | _,_,_,_,_,_=>none
def laIc (d t:Int) (J:Int->XIj->Prop) (s:St):Option (LA XIj):=match tmI 13 s,laIj d t (fun _=>True) s with
 | some q,some ⟨pa,bl,_,tv,rd,_,mu⟩=>some ⟨pa,bl,[2],fun x=>(match tv x with | [_,b]=>[b] | l=>l),rd,J q,mu⟩
 | _,_=>none
def conIj:Con:=Con.add fRA cRA (Con.add fDi cDi (Con.add fSm cSm (Con.add fAt xAt (Con.add fIx xIx (Con.add fPack xPk (Con.add fRP xPk (conU con0)))))))
theorem conIj_ok:zai P conIj:=.add cRA_ok (.add cDi_ok (.add cSm_ok (.add xAt_ok (.add xIx_ok (.add xPk_ok (.add xRP_ok (conU_ok zai.nil)))))))
def argMt (x:SC) (ln lc:Nat):List SV:=[.c (.ptr 0 (.k 0) (.k 0) 0 26),.c (.ptr 7 (.k 0) (.k 0) 0 21),.c x,.c (.ptr 15 (.k 0) (.k 0) 0 4),.c (slK 17 1 ln lc),.c (.ki .i64 200)]
def vIj (c:Cf) (v:Ev) (d t:Int) (cf ln lc:Nat) (g:Nat->Int) (I:XIj->Prop) (J1 J2:Int->XIj->Prop):V:=verF P conIj 6 8 fMt [] (.loop XIj [.renT 2] (laIj d t I) (.cut 16 XIj (laIc d t J1) .nil (.cut 18 XIj (laIc d t J2) .nil (.cut 21 XIj (laIc d t J2) .nil .nil))) .nil) (argMt insX ln lc) ⟨hMt c v (insB d t (.ki .i64 1) z6 z6 zU zU) (insF d t (.ki .i64 1) z6 z6 zU zU) cf ln g,18,fun _=>True⟩ (yesF 18)
end
end Go.Proofs.YtmbploaccpecbaaGreat.En
/- Match for Insert of the injector: the contract's answer. -/
namespace Go.Proofs.YtmbploaccpecbaaGreat.En
open Go Go.RowKit Sx Cn Dc Ck Vc Md
def okMi (c:Cf) (v:Ev):Prop:=c.H<=1000000/\4<=v.n/\v.n<=1000000/\okRk v.x/\v.n<=v.a.c/\v.n<=v.b.c/\okMw 2000000 v.m
noncomputable section
def rdMt (ke kr:Nat) (h:HL):Option (Cf×Ev×List Nat×List Nat):=fN (scK (zaw ke 22 h)) fun km=>fN (scK (zaw ke 23 h)) fun kk=>match ceS ke 24 h,ceS ke 25 h,rdRv kr h with
 | some (e4,xn,xr),some (e5,_,er),some (r,[_,r1,kP,kU,r4,r5])=>match rdMm h km,rdRk e4 xn h,kidK r4 h with
  | some y,some (x,f1,c1),some (f2,c2)=>some (r.c,⟨r.c,y.len.v,y.m,x,r.now,r.dr,⟨y.cap.v,xr,c1,er⟩,⟨r.cap,r.rc,c2,r.nc⟩⟩,[ke,km,y.kc,kk,e4,f1,e5,kr,r1,r4,f2,r5],[kP,kU])
  | _,_,_=>none
 | _,_,_=>none
def frAB (k:Nat) (h:HL):Option (Int×Int×Int×Nat):=match find k h with
 | some (.row _ c _ (.ck [.ki _ n]::_::_::_::_::_::.ck [a]::.ck [b]::_))=>match numC a,numC b with
  | some x,some y=>some (n,x,y,c)
  | _,_=>none
 | _=>none
def cMj:List SV->Hp->Out (SV×Hp):=fun args H=>match args with
 | [.c (.ptr ke _ _ _ _),.c (.ptr kr _ _ _ _),.c (.ifc t kx _ _ _ _),.c (.ptr ky _ _ _ _),.c (.slc kn _ _ _ ln lc),_]=>fN ke fun ke=>fN kr fun kr=>fN kx fun kx=>fN ky fun ky=>fN kn fun kn=>fN (scK (zaw ky 0 H.h)) fun kf=>match rdMt ke kr H.h,frAB kf H.h,rowW kn H.h with
  | some (c,v,σ,τ),some (n,d,u,cf),some g=>match n.toNat with
   | 10=>useP (σ++τ++[kx,ky,kf,kn]) 18 (argMt insX ln.v lc.v) (hMt c v (insB d u (.ki .i64 1) z6 z6 zU zU) (insF d u (.ki .i64 1) z6 z6 zU zU) cf ln.v g) (yesO 18 (okMi c v)) args H
   | _=>.bad 480
  | _,_,_=>.bad 482
 | _=>.bad 483
end
end Go.Proofs.YtmbploaccpecbaaGreat.En
/- Scripts of bytes; what is asked. -/
namespace Go.Proofs.YtmbploaccpecbaaGreat.En
open Go Go.RowKit Sx Cn Dc Ck Vc Md
structure Sc where
 n:Nat
 cap:Nat
 ka:Nat->Int
 va:Nat->Int
structure Xsc where
 i:Int
 l:Sc
noncomputable section
def Sc.row (l:Sc):Blk:=.row 105 l.cap l.n [.ci .i64 fun _ e=>l.ka e,.ci .i64 fun _ e=>l.va e]
def rdSc (k:Nat) (h:HL):Option Sc:=match find k h with
 | some (.row _ cap n [.ci _ f,.ci _ g])=>some ⟨n,cap,fun e=>f 0 e,fun e=>g 0 e⟩
 | _=>none
def laSc (I:Xsc->Prop) (len:Nat) (s:St):Option (LA Xsc):=fN (tmK 3 s) fun k3=>
 some ⟨[(tmK 3,false)],fun q=>[q.l.row],[4,3],fun q=>[iv q.i,.c (slK k3 2 q.l.n q.l.cap)],fun s=>match tmI 4 s,rdSc (tmK 3 s) s.H.h with | some i,some l=>some ⟨i,l⟩ | _,_=>none,I,fun q=>len+1 - q.i.toNat⟩
def fDe:FuncId:=27
def vDe (len cap:Nat) (g:Nat->Int) (I:Xsc->Prop) (Φ:Sc->Prop):V:=verF P con0 6 8 fDe [] (.loop Xsc [.nilTmp 3 105 2 [.ci .i64 fun _ _=>0,.ci .i64 fun _ _=>0]] (laSc I len) .nil .nil) [.c (slK 0 1 len cap)] ⟨[(0,ints .u8 len g)],1,fun _=>True⟩
 (finV (X:=Sc) 1 2 (fun s H=>rdSc (tupK s) H.h) (fun s _=>[tupK s]) Φ (fun l=>.c (slK 1 2 l.n l.cap)) (fun l=>[(1,l.row)]))
def okDe (l:Sc):Prop:=l.n<=l.cap/\l.n<=65536
def cDe:List SV->Hp->Out (SV×Hp):=fun args H=>match args with
 | [.c (.slc kb _ _ _ len cap)]=>match rowFn H.h kb 0 with
  | some g=>useP [kb] 1 [.c (slK 0 1 len.v cap.v)] [(0,ints .u8 len.v g)] (.need (len.v<=1000000) (.any Sc okDe fun l=>.leaf (.c (slK 1 2 l.n l.cap),⟨[(1,l.row)],2,fun _=>True⟩))) args H
  | _=>.bad 420
 | _=>.bad 421
def fSc:FuncId:=8
def conSc:Con:=Con.add fDe cDe con0
def vSc (len cap:Nat) (g:Nat->Int) (m:Int) (Φ:Sc->Prop):V:=verF P conSc 6 8 fSc [] .nil [.c (slK 0 1 len cap),iv m] ⟨[(0,ints .u8 len g)],1,fun _=>True⟩
 (finV (X:=Sc) 1 2 (fun s H=>match s,rdSc (tupK s) H.h with | .c (.slc _ _ _ _ n _),some l=>some ⟨n.v,l.cap,l.ka,l.va⟩ | _,_=>none) (fun s _=>[tupK s]) Φ (fun l=>.c (slK 1 2 l.n l.cap)) (fun l=>[(1,l.row)]))
end
end Go.Proofs.YtmbploaccpecbaaGreat.En
/- Scripts of bytes: the conditions, printed by program. -/
namespace Go.Proofs.YtmbploaccpecbaaGreat.En
open Go Go.RowKit Sx Cn Dc Ck Vc Md
abbrev ni49 (a0:Sc) (k:Nat->V):V:=V.need (a0.n<=a0.n/\a0.cap=a0.cap) (V.need (a0.n+1<=9223372036854775807/\(a0.n+1) * 16<=140737488355328) (V.any Nat (fun (x_1:Nat)=>a0.n+1<=x_1) fun v0=>k v0))
abbrev ni21 (a0:Sc) (a1:Nat->Int) (a2:Xsc) (k:V):V:=V.need (a0.n+1<=a0.n+1) (nN [qF (a0.n+1) (fun (e:Nat)=>if 0=0/\e=a0.n then (i64.wrap (a1 (0+a2.i.toNat))).tmod (ofNat 4) else a0.ka e)] k)
abbrev ni29 (a0:Xsc->Prop) (a1:Xsc) (a2:Sc) (a3:Nat) (a4:Nat->Int) (a5:Nat) (k:V):V:=V.need (a0 (Xsc.mk (i64.wrap (a1.i+ofNat 2)) (Sc.mk (a2.n+1) a3 (fun (e:Nat)=>if 0=0/\e=a2.n then (i64.wrap (a4 (0+a1.i.toNat))).tmod (ofNat 4) else a2.ka e) fun (e:Nat)=>if 0=0/\e=a2.n then ofNat 0 else a2.va e))) (V.need (a5+1 - (i64.wrap (a1.i+ofNat 2)).toNat < a5+1 - a1.i.toNat) k)
abbrev nis1 (y0:Xsc) (I:Xsc->Prop) (g:Nat->Int) (len:Nat):V:=nN [(2,.lt 0 1)] (ni49 y0.l fun y1=>ni29 I y0 y0.l y1 g len (nN [qE (i64.wrap (y0.i+ofNat 2)),qE (y0.l.n+1),qE y1,qE y1] (ni21 y0.l g y0 (nN [qF (y0.l.n+1) (fun (e:Nat)=>if 0=0/\e=y0.l.n then ofNat 0 else y0.l.va e)] V.ok))))
theorem vDe_eq (len cap:Nat) (g:Nat->Int) (I:Xsc->Prop) (Φ:Sc->Prop):V.pr .z (vDe len cap g I Φ)=
 V.need (I (Xsc.mk (ofNat 0) (Sc.mk 0 0 (fun (e:Nat)=>ofNat 0) fun (e:Nat)=>ofNat 0))) (nN [(1,.eqI 0 0),(3,.eq 0 0),(1,.le 0 0),qF 0 (fun (e:Nat)=>ofNat 0),qF 0 (fun (e:Nat)=>ofNat 0)] (V.any Xsc I fun y0=>V.br (decide (i64.wrap (y0.i+ofNat 1) < (↑len:Int))) (V.br (decide ((↑y0.l.n:Int) < ofNat 65536)) (V.need (ofNat 0<=y0.i/\y0.i < (↑len:Int)) (V.need (0 < 1/\0+y0.i.toNat < len) (V.need (0 < 1/\0+y0.i.toNat < len) (nN [(1,.neI 4 0)] (V.need (ofNat 0<=i64.wrap (y0.i+ofNat 1)/\i64.wrap (y0.i+ofNat 1) < (↑len:Int)) (V.need (0 < 1/\0+(i64.wrap (y0.i+ofNat 1)).toNat < len) (V.need (0 < 1/\0+(i64.wrap (y0.i+ofNat 1)).toNat < len) (V.br ((i64.wrap (g (0+y0.i.toNat))).tmod (ofNat 4) == ofNat 1) (nis1 y0 I g len) (V.br ((i64.wrap (g (0+y0.i.toNat))).tmod (ofNat 4) == ofNat 3) (nis1 y0 I g len) (nN [(2,.lt 0 1)] (ni49 y0.l fun y1=>V.need (I (Xsc.mk (i64.wrap (y0.i+ofNat 2)) (Sc.mk (y0.l.n+1) y1 (fun (e:Nat)=>if 0=0/\e=y0.l.n then (i64.wrap (g (0+y0.i.toNat))).tmod (ofNat 4) else y0.l.ka e) fun (e:Nat)=>if 0=0/\e=y0.l.n then i64.wrap (g (0+(i64.wrap (y0.i+ofNat 1)).toNat)) else y0.l.va e))) (V.need (len+1 - (i64.wrap (y0.i+ofNat 2)).toNat < len+1 - y0.i.toNat) (nN [qE (i64.wrap (y0.i+ofNat 2)),qE (y0.l.n+1),qE y1,qE y1] (ni21 y0.l g y0 (nN [qF (y0.l.n+1) (fun (e:Nat)=>if 0=0/\e=y0.l.n then i64.wrap (g (0+(i64.wrap (y0.i+ofNat 1)).toNat)) else y0.l.va e)] V.ok))))))))))))))) (V.need (Φ y0.l) (nN [qE y0.l.n,qE y0.l.cap,qE y0.l.cap,qL y0.l.n,qF y0.l.n y0.l.ka,qF y0.l.n y0.l.va] V.ok))) (V.need (Φ y0.l) (nN [qE y0.l.n,qE y0.l.cap,qE y0.l.cap,qL y0.l.n,qF y0.l.n y0.l.ka,qF y0.l.n y0.l.va] V.ok)))):=by kernel_rfl
abbrev ni26 (a0:Nat) (l:LP):LP:=qE a0::(1,.le 1 1)::l
theorem vSc_eq (len cap:Nat) (g:Nat->Int) (m:Int) (Φ:Sc->Prop):V.pr .z (vSc len cap g m Φ)=
 nN (qE len::ni26 cap [(1,.pf (∀ (i:Nat),i < 1->len<=len) (by intros; exact Nat.le_refl _)),(1,.pf (∀ (i e:Nat),i < 1/\e < len->g e=g e) (by intros; rfl))]) (V.need (len<=1000000) (nA okDe fun y0=>V.br (decide ((↑y0.n:Int) > m)) (V.need (ofNat 0<=ofNat 0/\ofNat 0<=m/\m<=(↑y0.cap:Int)) (V.need (Φ { y0 with n:=m.toNat }) (nN [qE m.toNat,qE y0.cap,qE y0.cap] (V.need (m.toNat<=y0.n) (nN [qF m.toNat y0.ka,qF m.toNat y0.va] V.ok))))) (V.need (Φ y0) (nN [qE y0.n,qE y0.cap,qE y0.cap,qL y0.n,qF y0.n y0.ka,qF y0.n y0.va] V.ok)))):=by kernel_rfl
end Go.Proofs.YtmbploaccpecbaaGreat.En
/- Scripts of bytes: the contracts. -/
namespace Go.Proofs.YtmbploaccpecbaaGreat.En
open Go Go.RowKit Sx Cn Dc Ck Vc Md
def ISc (len:Nat) (x:Xsc):Prop:=(0<=x.i/\x.i<=(len:Int)+1)/\x.l.n<=x.l.cap/\x.l.n<=65536
section
variable {len:Nat} {x:Xsc}
theorem sc_w1 (hl:len<=1000000) (h:ISc len x):i64.wrap (x.i+ofNat 1)=x.i+1:=by
 have:=h.1
 exact w64 (by simp only [Int.ofNat_eq_natCast]; omega)
theorem sc_w2 (hl:len<=1000000) (h:ISc len x):i64.wrap (x.i+ofNat 2)=x.i+2:=by
 have:=h.1
 exact w64 (by simp only [Int.ofNat_eq_natCast]; omega)
theorem sc_ix (hl:len<=1000000) (h:ISc len x) (hc:decide (i64.wrap (x.i+ofNat 1) < (len:Int))=true):(ofNat 0<=x.i/\x.i < (len:Int))/\(0 < 1/\0+x.i.toNat < len)/\(ofNat 0<=i64.wrap (x.i+ofNat 1)/\i64.wrap (x.i+ofNat 1) < (len:Int))/\(0 < 1/\0+(i64.wrap (x.i+ofNat 1)).toNat < len)/\len+1 - (i64.wrap (x.i+ofNat 2)).toNat < len+1 - x.i.toNat:=by
 have h1:=of_decide_eq_true hc
 have h2:=h.1
 rw [sc_w2 hl h]
 rw [sc_w1 hl h] at h1 ⊢
 simp only [Int.ofNat_eq_natCast]
 omega
theorem sc_mx (h:ISc len x):x.l.n+1<=9223372036854775807/\(x.l.n+1) * 16<=140737488355328:=by
 have:=h.2
 omega
theorem sc_s (hl:len<=1000000) (h:ISc len x) (hc:decide (i64.wrap (x.i+ofNat 1) < (len:Int))=true) (hn:decide ((x.l.n:Int) < ofNat 65536)=true) {k:Nat} (hk:x.l.n+1<=k) {f g:Nat->Int}:ISc len ⟨i64.wrap (x.i+ofNat 2),⟨x.l.n+1,k,f,g⟩⟩:=by
 have h1:=of_decide_eq_true hc
 have h3:=of_decide_eq_true hn
 have h2:=h.1
 rw [sc_w1 hl h] at h1
 simp only [Int.ofNat_eq_natCast] at h3
 refine ⟨⟨?_,?_⟩,hk,?_⟩
 ·show 0<=i64.wrap _
  rw [sc_w2 hl h]; omega
 ·show i64.wrap _<=_
  rw [sc_w2 hl h]; omega
 ·show x.l.n+1<=65536
  omega
end
theorem vhDe {len cap:Nat} {g:Nat->Int} (hl:len<=1000000):zae (vDe len cap g (ISc len) okDe):=by
 refine zae.pr (vDe_eq ..) ?_
 (repeat' first | with_reducible exact V.okI | with_reducible refine V.brT ?_ | with_reducible refine V.brF ?_ | with_reducible refine V.brI ?_ ?_ | with_reducible refine V.anyI ?_ | with_reducible refine nN_h rfl ?_ | with_reducible refine V.needI ?_ ?_ | with_reducible intro _)
 all_goals first
  | rfl
  | assumption
  | exact Nat.le_refl _
  | exact ⟨Nat.le_refl _,rfl⟩
  | exact ⟨⟨Int.le_refl _,by show (0:Int)<=(len:Int)+1; omega⟩,Nat.le_refl _,Nat.zero_le _⟩
  | exact sc_mx ‹_›
  | (rename_i x hx hc hn; exact (sc_ix hl hx hc).1)
  | (rename_i x hx hc hn; exact (sc_ix hl hx hc).2.1)
  | (rename_i x hx hc hn; exact (sc_ix hl hx hc).2.2.1)
  | (rename_i x hx hc hn; exact (sc_ix hl hx hc).2.2.2.1)
  | (rename_i x hx hc hn _ y hy; exact (sc_ix hl hx hc).2.2.2.2)
  | (rename_i x hx hc hn _ _ y hy; exact (sc_ix hl hx hc).2.2.2.2)
  | (rename_i x hx hc hn _ y hy; exact sc_s hl hx hc hn hy)
  | (rename_i x hx hc hn _ _ y hy; exact sc_s hl hx hc hn hy)
  | exact And.right (by assumption:ISc _ _)
  | trace_state
theorem cDe_ok:zab P fDe cDe:=zac fun args H=>by
 unfold cDe
 repeat' split
 all_goals first | exact .inl ⟨_,rfl⟩ | exact .inr ⟨_,_,_,_,_,rfl,zad zai.nil fun h=>vhDe h⟩
def okSc (m:Int) (l:Sc):Prop:=l.n<=l.cap/\(l.n:Int)<=m
theorem vhSc {len cap:Nat} {g:Nat->Int} {m:Int} (hl:len<=1000000) (hm:0<=m):zae (vSc len cap g m (okSc m)):=by
  refine zae.pr (vSc_eq ..) ?_
  (repeat' first | with_reducible exact V.okI | with_reducible refine V.brT ?_ | with_reducible refine V.brF ?_ | with_reducible refine V.brI ?_ ?_ | with_reducible refine V.anyI ?_ | with_reducible refine nN_h rfl ?_ | with_reducible refine V.needI ?_ ?_ | with_reducible intro _)
  all_goals first
    | rfl
    | exact hl
    | exact Nat.le_refl _
    | exact ⟨⟨0,0,fun _=>0,fun _=>0⟩,Nat.le_refl _,Nat.zero_le _⟩
    | (rename_i x hx hc
       have h1:=of_decide_eq_true hc
       have h2:=hx.1
       first
         | (simp only [Int.ofNat_eq_natCast]; omega)
         | (show m.toNat<=x.cap/\(m.toNat:Int)<=m; omega)
         | omega)
    | (rename_i x hx hc
       have h1:=of_decide_eq_false hc
       exact ⟨hx.1,by show (x.n:Int)<=m; omega⟩)
    | trace_state
noncomputable section
theorem conSc_ok:zai P conSc:=.add cDe_ok zai.nil
def cSc:List SV->Hp->Out (SV×Hp):=fun args H=>match args with
 | [.c (.slc kb _ _ _ len cap),.c cm]=>match rowFn H.h kb 0,numC cm with
  | some g,some m=>useP [kb] 1 [.c (slK 0 1 len.v cap.v),iv m] [(0,ints .u8 len.v g)] (.need (len.v<=1000000/\0<=m) (.any Sc (okSc m) fun l=>.leaf (.c (slK 1 2 l.n l.cap),⟨[(1,l.row)],2,fun _=>True⟩))) args H
  | _,_=>.bad 420
 | _=>.bad 421
theorem cSc_ok:zab P fSc cSc:=zac fun args H=>by
 unfold cSc
 repeat' split
 all_goals first | exact .inl ⟨_,rfl⟩ | exact .inr ⟨_,_,_,_,_,rfl,zad conSc_ok fun h=>vhSc h.1 h.2⟩
end
end Go.Proofs.YtmbploaccpecbaaGreat.En
/- Insert, step by step: the conditions, printed by program. -/
namespace Go.Proofs.YtmbploaccpecbaaGreat.En
open Go Go.RowKit Sx Cn Dc Ck Vc Md
abbrev ni8 (a0:Ev) (a1:Rm) (l:LP):LP:=qE a0.n::qE a1.c::l
abbrev ni9 (a0:Ev) (a1:Rm) (a2:Mm) (l:LP):LP:=ni8 a0 a1 (qE a2.lk::qE a2.lc::qE a2.lo::qE a2.ln::qE a2.ct::l)
abbrev ni10 (a0:Rk) (a1:Rm) (l:LP):LP:=qE a0.n::qE a1.r::(1,.eq 0 0)::qE a1.e::l
abbrev ni16 (a0:Rk) (a1:Rm) (l:LP):LP:=(1,.le 1 1)::(1,.pf (∀ (i:Nat),i < 1->a0.n<=a0.n) (by intros; exact Nat.le_refl _))::(1,.pf (∀ (i e:Nat),i < 1/\e < a0.n->a0.p e=a0.p e) (by intros; rfl))::(1,.pf (∀ (i e:Nat),i < 1/\e < a0.n->a0.pa e=a0.pa e) (by intros; rfl))::(1,.pf (∀ (i e:Nat),i < 1/\e < a0.n->a0.pc e=a0.pc e) (by intros; rfl))::(1,.pf (∀ (i e:Nat),i < 1/\e < a0.n->a0.lf e=a0.lf e) (by intros; rfl))::(1,.pf (∀ (i e:Nat),i < 1/\e < a0.n->a0.wt e=a0.wt e) (by intros; rfl))::(1,.pf (∀ (i e:Nat),i < 1/\e < a0.n->e=e) (by intros; rfl))::(1,.pf (∀ (i e:Nat),i < 1/\e < a0.n->a0.kl e=a0.kl e) (by intros; rfl))::(1,.pf (∀ (i e:Nat),i < 1/\e < a0.n->a1.k e=a1.k e) (by intros; rfl))::(1,.pf (∀ (i e:Nat),i < 1/\e < a0.n->a0.st e=a0.st e) (by intros; rfl))::(1,.le 1 1)::(1,.pf (∀ (i:Nat),i < 1->0<=0) (by intros; exact Nat.le_refl _))::(5,.pf (∀ (i e:Nat),i < 1/\e < 0->ofNat 0=ofNat 0) (by intros; rfl))::l
abbrev ni1 (a0:Ev) (a1:Rm) (a2:Mm) (k:V):V:=V.need (a0.n<=a0.n/\a0.n<=a1.c) (nN [(1,.pf (∀ (i e:Nat),i=0/\e < a0.n->a2.g e=a2.g e) (by intros; rfl))] k)
abbrev ni23 (a0:Ev) (a1:Rm) (a2:Mm) (k:V):V:=nN [(1,.le 1 1)] (ni1 a0 a1 a2 k)
abbrev ni28 (a0:Ev) (a1:Rm) (a2 a3:Mm) (k:V):V:=nN (ni8 a0 a1 []) (V.need (a2.lk=a3.lk) (V.need (a2.lc=a3.lc) (V.need (a2.lo=a3.lo) (V.need (a2.ln=a3.ln) (V.need (a2.ct=a3.ct) k)))))
abbrev ni46 (a0:Rk) (a1:Rm) (a2:Ev) (a3:Mm) (a4:XIj) (a5:Rm) (a6:Mm) (k:V):V:=nN (ni10 a0 a1 (ni9 a2 a1 a3 [])) (ni23 a2 a1 a3 (nN (qE a4.now::ni16 a0 a1 []) (ni28 a2 a5 a6 a3 (nN [qE a4.now] k))))
abbrev ni0 (a0:Rk) (l:LP):LP:=(1,.pf (∀ (i:Nat),i < a0.n->a0.kl i<=a0.kl i) (by intros; exact Nat.le_refl _))::(1,.pf (∀ (i e:Nat),i < a0.n/\e < a0.kl i->a0.kd i e=a0.kd i e) (by intros; rfl))::l
abbrev ni2 (a0:Rk) (a1:Ev) (a2:Mm) (a3:XIj) (k:V):V:=nN (ni0 a0 []) (V.need (okCm (Cm.mk a1.n a2 a3.now a0 0 (Evs.mk (fun (i:Nat)=>ofNat 0) (fun (i:Nat)=>ofNat 0) (fun (i:Nat)=>ofNat 0) (fun (i:Nat)=>ofNat 0) fun (i:Nat)=>ofNat 0))) k)
abbrev ni41 (a0:Rk) (a1:Rm) (a2:Ev) (a3 a4:Mm) (k:V):V:=nN (ni10 a0 a1 [(1,.le 1 1)]) (V.need (a2.n<=a2.n/\a2.n<=a1.c) (V.need (∀ (i e:Nat),i=0/\e < a2.n->a3.g e=a4.g e) (nN (ni16 a0 a1 (qL a0.n::ni0 a0 [qL a0.n])) k)))
abbrev ni47 (a0:Rk) (a1:Rm) (a2:Ev) (a3:Mm) (a4:XIj) (a5:Rm) (a6 a7:Mm) (k:V):V:=ni46 a0 a1 a2 a3 a4 a5 a6 (ni41 a0 a5 a2 a6 a3 (ni2 a0 a2 a3 a4 (nN ((3,.lt2 0 1 0 1)::ni8 a2 a1 [qE a3.ct,(1,.le 1 1)]) (ni1 a2 a1 a3 (V.br (decide (a3.ct > i64.wrap (a7.ct+ofNat 1))) (V.need True (V.need (false=true) (V.ok))) k)))))
abbrev ni4 (l:LP):LP:=(1,.le 1 1)::(1,.pf (∀ (i:Nat),i < 1->1<=1) (by intros; exact Nat.le_refl _))::l
abbrev ni32 (a0:Nat) (k:V):V:=V.need (ofNat 0<=ofNat 0/\ofNat 0<=ofNat 0/\ofNat 0<=(↑a0:Int)) (nN [(12,.lt2 0 1 0 1)] k)
abbrev nis0 (cf:Nat) (v:Ev) (y2:Mm) (y0:XIj) (y3:Mm):V:=nN [(6,.lt2 0 1 0 1)] (ni32 cf (nN (ni4 []) (ni47 v.x v.a v y2 y0 v.b y3 y0.m (nN ((6,.lt2 0 1 0 1)::ni4 []) (ni46 v.x v.a v y2 y0 v.b y3 (ni41 v.x v.b v y3 y2 (ni2 v.x v y2 y0 (V.need True V.ok))))))))
abbrev ni43 (a0:XIj) (a1:Cf) (l:LP):LP:=qE (i64.wrap ((i64.wrap (a0.i - ofNat 1)).tdiv (ofNat 2)))::qE a1.H::l
abbrev ni33 (a0:XIj) (l:LP):LP:=qE a0.k::qE a0.x::l
abbrev ni36 (a0:Nat) (l:LP):LP:=qE a0::ni26 a0 l
abbrev ni44 (a0:XIj) (a1:Nat) (l:LP):LP:=ni33 a0 (ni36 a1 l)
abbrev ni45 (a0:XIj) (k:V):V:=V.need ((ofNat 200 - i64.wrap (a0.s+ofNat 1)).toNat < (ofNat 200 - a0.s).toNat) (nN [qE (i64.wrap (a0.s+ofNat 1))] k)
abbrev ni48 (a0:XIj) (a1:Nat) (k:V):V:=V.need (ofNat 0<=a0.s/\a0.s < (↑a1:Int)) (V.need (0 < 1/\0+a0.s.toNat < a1) (V.need (0 < 1/\0+a0.s.toNat < a1) k))
abbrev ni50 (a0:XIj) (l:LP):LP:=qE a0.i::qE a0.n::ni33 a0 l
abbrev ni13 (a0:XIj) (a1:Ev) (l:LP):LP:=qE a0.now::qE a1.dr::l
abbrev ni15 (a0:Rk) (a1:Rm) (l:LP):LP:=ni10 a0 a1 (qE a1.c::l)
abbrev ni24 (a0:XIj) (a1:Ev) (a2:Rk) (a3:Rm) (l:LP):LP:=ni13 a0 a1 (ni15 a2 a3 l)
abbrev ni12 (a0:Ev) (a1:Mm) (l:LP):LP:=qL a0.n::qF a0.n a1.g::l
abbrev ni18 (a0:Ev) (a1:Rm) (a2:Mm) (l:LP):LP:=ni9 a0 a1 a2 (qE a1.c::ni12 a0 a2 l)
abbrev ni19 (a0:Cf) (l:LP):LP:=qE a0.W::qE a0.L::qE a0.C::qE a0.T::qE a0.D::qE a0.H::qE a0.B::qE a0.A::qE a0.P::qE a0.nP::qE a0.rc::qE a0.nU::qE a0.cu::l
abbrev ni35 (a0:Ev) (a1:Rm) (a2:Mm) (a3:Cf) (l:LP):LP:=ni18 a0 a1 a2 (ni19 a3 l)
abbrev ni51 (a0:Ev) (a1:Rm) (a2:Mm) (a3:Cf) (a4:Rm) (a5:Mm) (a6:XIj) (a7:Rk) (k:V):V:=nN (ni35 a0 a1 a2 a3 []) (ni28 a0 a4 a5 a2 (nN (ni24 a6 a0 a7 a4 [qL a0.n]) (V.need (∀ (e:Nat),e < a0.n->a5.g e=a2.g e) (nN (ni13 a6 a0 []) k))))
abbrev ni52 (a0:Cf) (l:LP):LP:=(1,.eqI 0 0)::ni19 a0 l
abbrev ni53 (a0:XIj) (a1:Nat) (l:LP):LP:=qE a0.i::ni44 a0 a1 l
abbrev ni3 (l:LP):LP:=(1,.le 0 0)::(1,.pf (∀ (i:Nat),i < 0->0<=0) (by intros; exact Nat.le_refl _))::l
abbrev ni25 (a0:Ev) (a1:Rm) (a2:Mm) (a3:XIj) (a4:Rk) (l:LP):LP:=ni9 a0 a1 a2 (ni24 a3 a0 a4 a1 (ni12 a0 a2 l))
abbrev ni54 (a0:Ev) (a1:Rm) (a2:Mm) (a3:XIj) (a4:Rk) (k:V):V:=nN (ni25 a0 a1 a2 a3 a4 (ni3 (ni3 [(1,.le 0 1)]))) (V.need (∀ (i:Nat),i < 0->0<=a4.n) (nN [(1,.le 0 1),(1,.pf (∀ (i:Nat),i < 0->0<=0) (by intros; exact Nat.le_refl _))] k))
abbrev ni55 (a0:XIj) (k:Bool->V):V:=nN (ni50 a0 []) (V.any Bool (fun (x:Bool)=>True) fun v0=>k v0)
abbrev ni56 (a0:XIj) (a1:Nat) (l:LP):LP:=qE a0.ln::qE a0.n::ni53 a0 a1 (qE a0.ln::l)
abbrev ni57 (l:LP):LP:=(1,.eqI 3 3)::(1,.eqI 1 1)::l
abbrev ni58 (a0:Int) (a1:Mm) (a2:Ev) (l:LP):LP:=qE a0::qE (i64.wrap (a1.val a2.n (ofNat 3)))::l
abbrev ni59 (a0:Mm) (a1:Ev) (a2:XIj) (a3:Cf) (k:Mm->V):V:=nN [qX (a0.acc a1.n (ofNat 2) (atM a2.i a3.H (ofNat 4) (ofNat 1)) a2.k)] (V.any Mm (fun (m':Mm)=>m'=a0.acc a1.n (ofNat 2) (atM a2.i a3.H (ofNat 4) (ofNat 1)) a2.k) fun v0=>k v0)
abbrev ni60 (a0:Ev) (a1:Rm) (a2:Mm) (a3:Cf) (a4:Rm) (a5:XIj) (a6:Rk) (l:LP):LP:=ni35 a0 a1 a2 a3 (ni25 a0 a4 a2 a5 a6 (ni13 a5 a0 l))
abbrev ni5 (a0:Mm) (a1:Ev) (a2:XIj) (a3:Cf) (k:Mm->V):V:=nN [qX (a0.acc a1.n (ofNat 1) (atM (i64.wrap ((i64.wrap (a2.i - ofNat 1)).tdiv (ofNat 2))) a3.H (ofNat 4) (ofNat 1)) (a0.val a1.n (atM (i64.wrap ((i64.wrap (a2.i - ofNat 1)).tdiv (ofNat 2))) a3.H (ofNat 4) (ofNat 1))))] (V.any Mm (fun (m':Mm)=>m'=a0.acc a1.n (ofNat 1) (atM (i64.wrap ((i64.wrap (a2.i - ofNat 1)).tdiv (ofNat 2))) a3.H (ofNat 4) (ofNat 1)) (a0.val a1.n (atM (i64.wrap ((i64.wrap (a2.i - ofNat 1)).tdiv (ofNat 2))) a3.H (ofNat 4) (ofNat 1)))) fun v0=>k v0)
abbrev ni6 (a0:XIj) (a1:Mm) (a2:Ev) (a3:Cf) (l:LP):LP:=qE a0.k::qE (a1.val a2.n (atM (i64.wrap ((i64.wrap (a0.i - ofNat 1)).tdiv (ofNat 2))) a3.H (ofNat 4) (ofNat 1)))::l
abbrev ni7 (a0:Mm) (a1:Ev) (k:Mm->V):V:=nN [qX (a0.acc a1.n (ofNat 6) (ofNat 3) (u64.wrap (a0.val a1.n (ofNat 3)+ofNat 1)))] (V.any Mm (fun (m':Mm)=>m'=a0.acc a1.n (ofNat 6) (ofNat 3) (u64.wrap (a0.val a1.n (ofNat 3)+ofNat 1))) fun v0=>k v0)
abbrev ni11 (a0:XIj) (a1:Cf) (k:V):V:=V.need (zdz (i64.wrap ((i64.wrap (a0.i - ofNat 1)).tdiv (ofNat 2))) a1.H (ofNat 4) (ofNat 1)) (nN [qE (atM (i64.wrap ((i64.wrap (a0.i - ofNat 1)).tdiv (ofNat 2))) a1.H (ofNat 4) (ofNat 1))] k)
abbrev ni14 (a0:XIj) (k:V):V:=V.need ((a0.ln == ofNat 1)=false) (V.need ((a0.ln == ofNat 2)=false) k)
abbrev ni17 (l:LP):LP:=(3,.lt 0 1)::(7,.lt2 0 1 0 1)::l
abbrev ni20 (a0:Mm) (a1:Ev) (k:Mm->V):V:=nN [qX (a0.acc a1.n (ofNat 1) (ofNat 2) (a0.val a1.n (ofNat 2)))] (V.any Mm (fun (m':Mm)=>m'=a0.acc a1.n (ofNat 1) (ofNat 2) (a0.val a1.n (ofNat 2))) fun v0=>k v0)
abbrev ni22 (a0:XIj) (a1:Int) (a2:Mm) (a3:Ev) (a4:Int) (l:LP):LP:=qE a0.n::qE (pkW a1 (i64.wrap (a2.val a3.n (ofNat 3))) a4)::l
abbrev ni27 (a0:Mm) (a1:Ev) (a2:XIj) (a3:Cf) (k:Mm->V):V:=nN [qX (a0.acc a1.n (ofNat 2) (atM a2.i a3.H (ofNat 4) (ofNat 1)) a2.x)] (V.any Mm (fun (m':Mm)=>m'=a0.acc a1.n (ofNat 2) (atM a2.i a3.H (ofNat 4) (ofNat 1)) a2.x) fun v0=>k v0)
abbrev ni30 (a0:XIj) (l:LP):LP:=qE a0.n::qE (i64.wrap ((i64.wrap (a0.i - ofNat 1)).tdiv (ofNat 2)))::l
abbrev ni31 (a0:XIj) (l:LP):LP:=qE (i64.wrap ((i64.wrap (a0.i - ofNat 1)).tdiv (ofNat 2)))::qE a0.n::l
abbrev ni34 (l:LP):LP:=(3,.lt 0 1)::ni4 l
abbrev ni37 (a0:XIj) (a1:Cf) (k:V):V:=V.need (zdz a0.i a1.H (ofNat 4) (ofNat 1)) (nN [(3,.lt2 0 1 0 1),qE (atM a0.i a1.H (ofNat 4) (ofNat 1))] k)
abbrev ni38 (l:LP):LP:=(7,.lt2 0 1 0 1)::ni17 ((9,.lt 0 1)::l)
abbrev ni39 (a0:Mm) (a1:Ev) (a2:XIj) (k:Mm->V):V:=nN [qX (a0.acc a1.n (ofNat 2) (ofNat 2) (u64.wrap (i64.wrap (a2.n+ofNat 1))))] (V.any Mm (fun (m':Mm)=>m'=a0.acc a1.n (ofNat 2) (ofNat 2) (u64.wrap (i64.wrap (a2.n+ofNat 1)))) fun v0=>k v0)
abbrev ni40 (a0:XIj) (k:V):V:=V.need ((a0.ln == ofNat 1)=false) (V.need ((a0.ln == ofNat 2)=true) k)
abbrev ni42 (a0:XIj) (k:V):V:=ni14 a0 (V.need ((a0.ln == ofNat 3)=false) k)
theorem vIj_eq (c:Cf) (v:Ev) (d t:Int) (cf ln lc:Nat) (g:Nat->Int) (I:XIj->Prop) (J1 J2:Int->XIj->Prop):V.pr (.b (.b (.b (.b (.t (.t .z)) (.t (.f .z))) (.b (.b (.f (.t (.t .z))) (.b (.f (.t (.f .z))) (.f (.t (.f .z))))) (.b (.b (.f (.f (.t .z))) (.f (.f (.t .z)))) (.b (.b (.f (.f (.f (.t .z)))) (.f (.f (.f (.t .z))))) (.b (.f (.f (.f (.f (.t .z))))) (.f (.f (.f (.f (.f .z)))))))))) .z) .z) (vIj c v d t cf ln lc g I J1 J2)=
 nN [(7,.lt2 0 1 0 1)] (V.need (I (XIj.mk (ofNat 0) v.m v.now (ofNat 1) (ofNat 0) (ofNat 0) (ofNat 0) (ofNat 0))) (nN ((1,.eqI 0 0)::ni35 v v.a v.m c (ni9 v v.b v.m (qE v.now::qE v.dr::ni15 v.x v.b (ni12 v v.m (qE v.now::qE v.dr::qE d::qE t::(1,.eqI 1 1)::(4,.eqI 0 0)::ni36 cf [(1,.eqI 1 1),qE d,qE t,(4,.eqI 0 0)]))))) (V.any XIj I fun y0=>V.br (decide (y0.s < ofNat 200)) (nN (ni60 v v.a y0.m c v.b y0 v.x (qE d::qE t::ni56 y0 cf [qE d,qE t])) (ni55 y0 fun y1=>V.br y1 (nN ((9,.lt2 0 1 0 1)::ni8 v v.a [qE y0.m.ct]) (ni23 v v.a y0.m (nN [(16,.lt2 0 1 0 1)] (V.br (y0.ln == ofNat 1) (nN ((1,.eqI 2 2)::ni18 v v.a y0.m []) (ni20 y0.m v fun y2=>nN [(7,.lt2 0 1 0 1)] (V.br (decide (i64.wrap (y0.m.val v.n (ofNat 2)) >= c.H)) (nN (ni38 []) (V.need ((y0.ln == ofNat 1)=true) (nN ((1,.eqI 2 2)::(2,.eqI 0 0)::ni19 c []) (ni54 v v.b y0.m y0 v.x (ni20 y0.m v fun y3=>nN (ni17 []) (V.need (decide (i64.wrap (y0.m.val v.n (ofNat 2)) >= c.H)=true) (nis0 cf v y2 y0 y3))))))) (nN (ni38 []) (V.need ((y0.ln == ofNat 1)=true) (nN ((1,.eqI 2 2)::(2,.eqI 0 0)::ni19 c []) (ni54 v v.b y0.m y0 v.x (ni20 y0.m v fun y3=>nN (ni17 []) (V.need (decide (i64.wrap (y0.m.val v.n (ofNat 2)) >= c.H)=false) (nN (ni34 []) (ni47 v.x v.a v y2 y0 v.b y3 y0.m (V.need (J1 y0.s (XIj.mk y0.s y2 y0.now (ofNat 2) (i64.wrap (y0.m.val v.n (ofNat 2))) y0.i y0.k y0.x)) (ni51 v v.a y2 c v.b y3 y0 v.x (nN (qE d::qE t::(1,.eqI 2 2)::qE (i64.wrap (y0.m.val v.n (ofNat 2)))::ni53 y0 cf []) (V.need (i64.wrap (y0.ln+ofNat 1)=ofNat 2) (nN (qE d::qE t::qE y0.i::qE (i64.wrap (y0.m.val v.n (ofNat 2)))::ni33 y0 []) V.ok)))))))))))))))) (V.br (y0.ln == ofNat 2) (nN ((14,.lt2 0 1 0 1)::ni57 (ni18 v v.a y0.m [])) (ni7 y0.m v fun y2=>nN ((3,.lt2 0 1 0 1)::ni58 d y0.m v [qE t]) (V.br (!pkB d (i64.wrap (y0.m.val v.n (ofNat 3))) t) (nN (ni38 []) (ni40 y0 (nN ((3,.lt2 0 1 0 1)::ni57 (ni52 c [])) (ni54 v v.b y0.m y0 v.x (ni7 y0.m v fun y3=>nN ((3,.lt2 0 1 0 1)::ni58 d y0.m v [qE t]) (V.need ((!pkB d (i64.wrap (y0.m.val v.n (ofNat 3))) t)=true) (nis0 cf v y2 y0 y3))))))) (V.br (decide (y0.n > ofNat 0)) (nN (ni38 []) (ni40 y0 (nN ((3,.lt2 0 1 0 1)::ni57 (ni52 c [])) (ni54 v v.b y0.m y0 v.x (ni7 y0.m v fun y3=>nN ((3,.lt2 0 1 0 1)::ni58 d y0.m v [qE t]) (V.need ((!pkB d (i64.wrap (y0.m.val v.n (ofNat 3))) t)=false) (nN [(12,.lt 0 1)] (V.br (decide (y0.n<=ofNat 0)) (nN (ni34 []) (ni47 v.x v.a v y2 y0 v.b y3 y0.m (V.need (J1 y0.s (XIj.mk y0.s y2 y0.now (ofNat 3) y0.n y0.n (pkW d (i64.wrap (y0.m.val v.n (ofNat 3))) t) y0.x)) (ni51 v v.a y2 c v.b y3 y0 v.x (nN (qE d::qE t::(1,.eqI 3 3)::qE y0.n::ni22 y0 d y0.m v t (qE y0.x::ni36 cf [])) (V.need (ofNat 5=ofNat 3) (nN (qE d::qE t::qE y0.n::ni22 y0 d y0.m v t [qE y0.x]) V.ok))))))) (nN (ni34 []) (ni47 v.x v.a v y2 y0 v.b y3 y0.m (V.need (J1 y0.s (XIj.mk y0.s y2 y0.now (ofNat 3) y0.n y0.n (pkW d (i64.wrap (y0.m.val v.n (ofNat 3))) t) y0.x)) (ni51 v v.a y2 c v.b y3 y0 v.x (nN (qE d::qE t::(1,.eqI 3 3)::qE y0.n::ni22 y0 d y0.m v t (qE y0.x::ni36 cf [])) (V.need (i64.wrap (y0.ln+ofNat 1)=ofNat 3) (nN (qE d::qE t::qE y0.n::ni22 y0 d y0.m v t [qE y0.x]) V.ok))))))))))))))) (nN (ni38 []) (ni40 y0 (nN ((3,.lt2 0 1 0 1)::ni57 (ni52 c [])) (ni54 v v.b y0.m y0 v.x (ni7 y0.m v fun y3=>nN ((3,.lt2 0 1 0 1)::ni58 d y0.m v [qE t]) (V.need ((!pkB d (i64.wrap (y0.m.val v.n (ofNat 3))) t)=false) (nN [(12,.lt 0 1)] (V.br (decide (y0.n<=ofNat 0)) (nN (ni34 []) (ni47 v.x v.a v y2 y0 v.b y3 y0.m (V.need (J1 y0.s (XIj.mk y0.s y2 y0.now (ofNat 5) y0.n y0.n (pkW d (i64.wrap (y0.m.val v.n (ofNat 3))) t) y0.x)) (ni51 v v.a y2 c v.b y3 y0 v.x (nN (qE d::qE t::(1,.eqI 5 5)::qE y0.n::ni22 y0 d y0.m v t (qE y0.x::ni36 cf ((1,.eqI 5 5)::qE d::qE t::qE y0.n::ni22 y0 d y0.m v t [qE y0.x]))) V.ok))))) (nN (ni34 []) (ni47 v.x v.a v y2 y0 v.b y3 y0.m (V.need (J1 y0.s (XIj.mk y0.s y2 y0.now (ofNat 5) y0.n y0.n (pkW d (i64.wrap (y0.m.val v.n (ofNat 3))) t) y0.x)) (ni51 v v.a y2 c v.b y3 y0 v.x (nN (qE d::qE t::(1,.eqI 5 5)::qE y0.n::ni22 y0 d y0.m v t (qE y0.x::ni36 cf [])) (V.need (i64.wrap (y0.ln+ofNat 1)=ofNat 5) (nN (qE d::qE t::qE y0.n::ni22 y0 d y0.m v t [qE y0.x]) V.ok))))))))))))))))))) (V.br (y0.ln == ofNat 3) (nN ((14,.lt2 0 1 0 1)::(1,.neI 2 0)::ni43 y0 c [(1,.eqI 4 4),(1,.eqI 1 1)]) (ni11 y0 c (nN (ni18 v v.a y0.m []) (ni5 y0.m v y0 c fun y2=>nN [(8,.lt2 0 1 0 1)] (V.br (decide (y0.m.val v.n (atM (i64.wrap ((i64.wrap (y0.i - ofNat 1)).tdiv (ofNat 2))) c.H (ofNat 4) (ofNat 1)) > y0.k)) (nN (ni38 []) (ni14 y0 (V.need ((y0.ln == ofNat 3)=true) (nN ((16,.lt2 0 1 0 1)::(1,.neI 2 0)::(1,.eqI 4 4)::ni43 y0 c [(1,.eqI 1 1)]) (ni11 y0 c (nN ((2,.eqI 0 0)::ni19 c []) (ni54 v v.b y0.m y0 v.x (ni5 y0.m v y0 c fun y3=>nN [(2,.lt2 0 1 0 1),(1,.lt 0 1),(6,.lt2 0 1 0 1)] (V.br (decide (y0.m.val v.n (atM (i64.wrap ((i64.wrap (y0.i - ofNat 1)).tdiv (ofNat 2))) c.H (ofNat 4) (ofNat 1))<=y0.k)) (nN (ni34 []) (ni47 v.x v.a v y2 y0 v.b y3 y0.m (V.need (J1 y0.s (XIj.mk y0.s y2 y0.now (ofNat 4) y0.n y0.i y0.k (y0.m.val v.n (atM (i64.wrap ((i64.wrap (y0.i - ofNat 1)).tdiv (ofNat 2))) c.H (ofNat 4) (ofNat 1))))) (ni51 v v.a y2 c v.b y3 y0 v.x (nN (qE d::qE t::(1,.eqI 4 4)::qE y0.n::qE y0.i::ni6 y0 y0.m v c (ni36 cf [])) (V.need (ofNat 5=ofNat 4) (nN (qE d::qE t::qE y0.i::qE y0.n::ni6 y0 y0.m v c []) V.ok))))))) (nN (ni34 []) (ni47 v.x v.a v y2 y0 v.b y3 y0.m (V.need (J1 y0.s (XIj.mk y0.s y2 y0.now (ofNat 4) y0.n y0.i y0.k (y0.m.val v.n (atM (i64.wrap ((i64.wrap (y0.i - ofNat 1)).tdiv (ofNat 2))) c.H (ofNat 4) (ofNat 1))))) (ni51 v v.a y2 c v.b y3 y0 v.x (nN (qE d::qE t::(1,.eqI 4 4)::qE y0.n::qE y0.i::ni6 y0 y0.m v c (ni36 cf [])) (V.need (i64.wrap (y0.ln+ofNat 1)=ofNat 4) (nN (qE d::qE t::qE y0.i::qE y0.n::ni6 y0 y0.m v c []) V.ok)))))))))))))))) (nN (ni38 []) (ni14 y0 (V.need ((y0.ln == ofNat 3)=true) (nN ((16,.lt2 0 1 0 1)::(1,.neI 2 0)::(1,.eqI 4 4)::ni43 y0 c [(1,.eqI 1 1)]) (ni11 y0 c (nN ((2,.eqI 0 0)::ni19 c []) (ni54 v v.b y0.m y0 v.x (ni5 y0.m v y0 c fun y3=>nN [(2,.lt2 0 1 0 1),(1,.lt 0 1),(6,.lt2 0 1 0 1)] (V.br (decide (y0.m.val v.n (atM (i64.wrap ((i64.wrap (y0.i - ofNat 1)).tdiv (ofNat 2))) c.H (ofNat 4) (ofNat 1))<=y0.k)) (nN (ni34 []) (ni47 v.x v.a v y2 y0 v.b y3 y0.m (V.need (J1 y0.s (XIj.mk y0.s y2 y0.now (ofNat 5) y0.n y0.i y0.k (y0.m.val v.n (atM (i64.wrap ((i64.wrap (y0.i - ofNat 1)).tdiv (ofNat 2))) c.H (ofNat 4) (ofNat 1))))) (ni51 v v.a y2 c v.b y3 y0 v.x (nN (qE d::qE t::(1,.eqI 5 5)::qE y0.n::qE y0.i::ni6 y0 y0.m v c (ni36 cf ((1,.eqI 5 5)::qE d::qE t::qE y0.i::qE y0.n::ni6 y0 y0.m v c []))) V.ok))))) (nN (ni34 []) (ni47 v.x v.a v y2 y0 v.b y3 y0.m (V.need (J1 y0.s (XIj.mk y0.s y2 y0.now (ofNat 5) y0.n y0.i y0.k (y0.m.val v.n (atM (i64.wrap ((i64.wrap (y0.i - ofNat 1)).tdiv (ofNat 2))) c.H (ofNat 4) (ofNat 1))))) (ni51 v v.a y2 c v.b y3 y0 v.x (nN (qE d::qE t::(1,.eqI 5 5)::qE y0.n::qE y0.i::ni6 y0 y0.m v c (ni36 cf [])) (V.need (i64.wrap (y0.ln+ofNat 1)=ofNat 5) (nN (qE d::qE t::qE y0.i::qE y0.n::ni6 y0 y0.m v c []) V.ok))))))))))))))))))))) (V.br (y0.ln == ofNat 4) (nN [(14,.lt2 0 1 0 1),qE y0.i,qE c.H,(1,.eqI 4 4),(1,.eqI 1 1)] (ni37 y0 c (nN (qE y0.x::ni18 v v.a y0.m []) (ni27 y0.m v y0 c fun y2=>nN [(1,.neI 2 0)] (V.br (decide (i64.wrap ((i64.wrap (y0.i - ofNat 1)).tdiv (ofNat 2)) > ofNat 0)) (nN (ni38 []) (ni42 y0 (V.need ((y0.ln == ofNat 4)=true) (nN [(16,.lt2 0 1 0 1),(1,.eqI 4 4),qE y0.i,qE c.H,(1,.eqI 1 1)] (ni37 y0 c (nN (qE y0.x::ni52 c []) (ni54 v v.b y0.m y0 v.x (ni27 y0.m v y0 c fun y3=>nN [(3,.lt 0 1),(1,.neI 2 0),(6,.lt 0 1)] (V.br (decide (i64.wrap ((i64.wrap (y0.i - ofNat 1)).tdiv (ofNat 2))<=ofNat 0)) (nN (ni34 []) (ni47 v.x v.a v y2 y0 v.b y3 y0.m (V.need (J1 y0.s (XIj.mk y0.s y2 y0.now (ofNat 3) y0.n (i64.wrap ((i64.wrap (y0.i - ofNat 1)).tdiv (ofNat 2))) y0.k y0.x)) (ni51 v v.a y2 c v.b y3 y0 v.x (nN (qE d::qE t::(1,.eqI 3 3)::ni30 y0 (ni44 y0 cf [])) (V.need (ofNat 5=ofNat 3) (nN (qE d::qE t::ni31 y0 (ni33 y0 [])) V.ok))))))) (nN (ni34 []) (ni47 v.x v.a v y2 y0 v.b y3 y0.m (V.need (J1 y0.s (XIj.mk y0.s y2 y0.now (ofNat 3) y0.n (i64.wrap ((i64.wrap (y0.i - ofNat 1)).tdiv (ofNat 2))) y0.k y0.x)) (ni51 v v.a y2 c v.b y3 y0 v.x (nN (qE d::qE t::(1,.eqI 3 3)::ni30 y0 (ni44 y0 cf ((1,.eqI 3 3)::qE d::qE t::ni31 y0 (ni33 y0 [])))) V.ok)))))))))))))) (nN (ni38 []) (ni42 y0 (V.need ((y0.ln == ofNat 4)=true) (nN [(16,.lt2 0 1 0 1),(1,.eqI 4 4),qE y0.i,qE c.H,(1,.eqI 1 1)] (ni37 y0 c (nN (qE y0.x::ni52 c []) (ni54 v v.b y0.m y0 v.x (ni27 y0.m v y0 c fun y3=>nN [(3,.lt 0 1),(1,.neI 2 0),(6,.lt 0 1)] (V.br (decide (i64.wrap ((i64.wrap (y0.i - ofNat 1)).tdiv (ofNat 2))<=ofNat 0)) (nN (ni34 []) (ni47 v.x v.a v y2 y0 v.b y3 y0.m (V.need (J1 y0.s (XIj.mk y0.s y2 y0.now (ofNat 5) y0.n (i64.wrap ((i64.wrap (y0.i - ofNat 1)).tdiv (ofNat 2))) y0.k y0.x)) (ni51 v v.a y2 c v.b y3 y0 v.x (nN (qE d::qE t::(1,.eqI 5 5)::ni30 y0 (ni44 y0 cf ((1,.eqI 5 5)::qE d::qE t::ni31 y0 (ni33 y0 [])))) V.ok))))) (nN (ni34 []) (ni47 v.x v.a v y2 y0 v.b y3 y0.m (V.need (J1 y0.s (XIj.mk y0.s y2 y0.now (ofNat 5) y0.n (i64.wrap ((i64.wrap (y0.i - ofNat 1)).tdiv (ofNat 2))) y0.k y0.x)) (ni51 v v.a y2 c v.b y3 y0 v.x (nN (qE d::qE t::(1,.eqI 5 5)::ni30 y0 (ni44 y0 cf [])) (V.need (ofNat 3=ofNat 5) (nN (qE d::qE t::ni31 y0 (ni33 y0 [])) V.ok))))))))))))))))))))) (V.br (y0.ln == ofNat 5) (nN [(14,.lt2 0 1 0 1),qE y0.i,qE c.H,(1,.eqI 4 4),(1,.eqI 1 1)] (ni37 y0 c (nN (qE y0.k::ni18 v v.a y0.m []) (ni59 y0.m v y0 c fun y2=>nN (ni38 []) (ni42 y0 (V.need ((y0.ln == ofNat 4)=false) (V.need ((y0.ln == ofNat 5)=true) (nN [(16,.lt2 0 1 0 1),(1,.eqI 4 4),qE y0.i,qE c.H,(1,.eqI 1 1)] (ni37 y0 c (nN (qE y0.k::ni52 c []) (ni54 v v.b y0.m y0 v.x (ni59 y0.m v y0 c fun y3=>nN (ni34 []) (ni47 v.x v.a v y2 y0 v.b y3 y0.m (V.need (J1 y0.s { y0 with m:=y2,ln:=ofNat 6 }) (ni51 v v.a y2 c v.b y3 y0 v.x (nN (qE d::qE t::(1,.eqI 6 6)::qE y0.n::ni53 y0 cf []) (V.need (i64.wrap (y0.ln+ofNat 1)=ofNat 6) (nN (qE d::qE t::ni50 y0 []) V.ok)))))))))))))))))) (nN ((14,.lt2 0 1 0 1)::(1,.eqI 2 2)::qE (u64.wrap (i64.wrap (y0.n+ofNat 1)))::ni18 v v.a y0.m []) (ni39 y0.m v y0 fun y2=>nN (ni38 []) (ni42 y0 (V.need ((y0.ln == ofNat 4)=false) (V.need ((y0.ln == ofNat 5)=false) (nN ((3,.lt 0 1)::(1,.eqI 2 2)::qE (u64.wrap (i64.wrap (y0.n+ofNat 1)))::ni52 c []) (ni54 v v.b y0.m y0 v.x (ni39 y0.m v y0 fun y3=>nis0 cf v y2 y0 y3)))))))))))))))) (V.any XIj (J1 y0.s) fun y2=>nN (ni60 v v.a y2.m c v.b y2 v.x (qE d::qE t::ni56 y2 cf [qE d,qE t])) (ni55 y2 fun y3=>V.br y3 (V.br (decide (y0.s < (↑ln:Int))) (ni48 y0 ln (nN [(1,.neI 3 0)] (V.br ((g (0+y0.s.toNat)).tmod (ofNat 3) == ofNat 1) (ni48 y0 ln (nN [(1,.neI 3 0)] (ni48 y0 ln (nN ((1,.neI 7 0)::qE (i64.wrap ((g (0+y0.s.toNat)).tdiv (ofNat 3)))::qE (i64.wrap ((g (0+y0.s.toNat)).tdiv (ofNat 7)))::ni4 (ni35 v v.a y2.m c [])) (ni54 v v.b y2.m y2 v.x (V.need (v.n<=1000000/\okMw (ofNat 1000000000) y2.m) (nA (okMw (y2.m.ct+ofNat 1)) fun y4=>V.need (J2 y0.s { y2 with s:=y0.s,m:=y4 }) (nN (ni60 v v.a y4 c v.b y2 v.x (qE d::qE t::ni56 y2 cf (qE d::qE t::ni50 y2 []))) V.ok)))))))) (V.need (J2 y0.s { y2 with s:=y0.s }) (nN (ni60 v v.a y2.m c v.b y2 v.x (qE d::qE t::ni56 y2 cf (qE d::qE t::ni50 y2 []))) V.ok))))) (V.need (J2 y0.s { y2 with s:=y0.s }) (nN (ni60 v v.a y2.m c v.b y2 v.x (qE d::qE t::ni56 y2 cf (qE d::qE t::ni50 y2 []))) V.ok))) (V.any XIj (J2 y0.s) fun y4=>nN (ni60 v v.a y4.m c v.b y4 v.x (qE d::qE t::ni56 y4 cf [qE d,qE t])) (ni55 y4 fun y5=>V.br y5 (V.br (decide (y0.s < (↑ln:Int))) (ni48 y0 ln (nN [(1,.neI 13 0)] (V.br ((g (0+y0.s.toNat)).tmod (ofNat 13) == ofNat 5) (nN [(3,.lt2 0 1 0 1)] (V.need (J2 y0.s { y4 with s:=y0.s,now:=i64.wrap (y4.now+ofNat 1) }) (nN (ni35 v v.a y4.m c (ni9 v v.b y4.m (qE (i64.wrap (y4.now+ofNat 1))::qE v.dr::ni15 v.x v.b (ni12 v y4.m (qE (i64.wrap (y4.now+ofNat 1))::qE v.dr::qE d::qE t::ni56 y4 cf (qE d::qE t::ni50 y4 [])))))) V.ok))) (V.need (J2 y0.s { y4 with s:=y0.s }) (nN (ni60 v v.a y4.m c v.b y4 v.x (qE d::qE t::ni56 y4 cf (qE d::qE t::ni50 y4 []))) V.ok))))) (V.need (J2 y0.s { y4 with s:=y0.s }) (nN (ni60 v v.a y4.m c v.b y4 v.x (qE d::qE t::ni56 y4 cf (qE d::qE t::ni50 y4 []))) V.ok))) (V.any XIj (J2 y0.s) fun y6=>V.br (y0.s == ofNat 2) (V.need (I { y6 with s:=i64.wrap (y0.s+ofNat 1) }) (ni45 y0 (nN (ni60 v v.a y6.m c v.b y6 v.x (qE d::qE t::ni56 y6 cf (qE d::qE t::ni50 y6 []))) V.ok))) (V.need (I { y6 with s:=i64.wrap (y0.s+ofNat 1) }) (ni45 y0 (nN (ni60 v v.a y6.m c v.b y6 v.x (qE d::qE t::ni56 y6 cf (qE d::qE t::ni50 y6 []))) V.ok)))))))))) (V.need True V.ok)))):=by kernel_rfl
end Go.Proofs.YtmbploaccpecbaaGreat.En
/- Insert, step by step: the conditions hold. -/
namespace Go.Proofs.YtmbploaccpecbaaGreat.En
open Go Go.RowKit Sx Cn Dc Ck Vc Md
def wW (x:Int):Prop:=0<=x/\x<=18446744073709551615
def rIj (x:XIj):Prop:=wW x.k/\wW x.x
def iIj (x:XIj):Prop:=0<=x.s/\okMw (2000000+2 * x.s) x.m/\rIj x
def jIj (b q:Int) (x:XIj):Prop:=okMw (2000000+2 * q+b) x.m/\rIj x
theorem ct_no {m x:Mm} {n:Nat} {k a y b:Int} (hm:okMw b m) (hb2:b<=9000000000) (hb:decide (x.ct > i64.wrap (m.ct+ofNat 1))=true) (h:x=m.acc n k a y):False:=by
 subst h
 have h1:=hm.2.1
 have h2:=hm.2.2
 have h3:i64.wrap (m.ct+1)=m.ct+1:=w64 (by omega)
 have hb:(m.acc n k a y).ct > i64.wrap (m.ct+1):=of_decide_eq_true hb
 unfold Mm.acc at hb
 cases hi:inb n a with
 | false=>
  rw [hi] at hb
  have hb:m.ct > i64.wrap (m.ct+1):=hb
  omega
 | true=>
  rw [hi] at hb
  have hb:i64.wrap (m.ct+1) > i64.wrap (m.ct+1):=hb
  omega
theorem val_ok {m:Mm} {b:Int} {n:Nat} {a:Int} (h:okMw b m):wW (m.val n a):=by
 unfold Mm.val
 cases inb n a with
 | false=>exact ⟨Int.le_refl 0,(by decide:(0:Int)<=18446744073709551615)⟩
 | true=>exact h.1 _
theorem pkW_ok (d a t:Int):wW (pkW d a t):=by
 unfold pkW
 cases h:pkB d a t with
 | false=>exact ⟨Int.le_refl 0,(by decide:(0:Int)<=18446744073709551615)⟩
 | true=>
  have:=of_decide_eq_true h
  show 0<=d * 1099511627776+a * 65536+t/\d * 1099511627776+a * 65536+t<=18446744073709551615
  omega
theorem s_lt {x:Int} (h:decide (x < ofNat 200)=true):x < 200:=of_decide_eq_true h
theorem in_ct {x:XIj} {m:Mm} {n:Nat} {k a y:Int} (hi:iIj x) (hs:decide (x.s < ofNat 200)=true) (hb:decide (m.ct > i64.wrap (x.m.ct+ofNat 1))=true) (h:m=x.m.acc n k a y):False:=by
 have:=s_lt hs
 exact ct_no hi.2.1 (by omega) hb h
theorem in_j {x:XIj} {m:Mm} {n:Nat} {k a y now ln nn i kk xx:Int} (hi:iIj x) (hs:decide (x.s < ofNat 200)=true) (h:m=x.m.acc n k a y) (hy:wW y) (hk:wW kk) (hx:wW xx):jIj 1 x.s ⟨x.s,m,now,ln,nn,i,kk,xx⟩:=by
 have:=s_lt hs
 subst h
 exact ⟨zgp hi.2.1 (by omega) hy,hk,hx⟩
theorem in_j2 {q s now ln n i:Int} {x:XIj} (h:jIj 1 q x):jIj 2 q ⟨s,x.m,now,ln,n,i,x.k,x.x⟩:=⟨h.1.le (by omega),h.2⟩
theorem in_j2d {q s now ln n i:Int} {x:XIj} {m:Mm} (h:jIj 1 q x) (hm:okMw (x.m.ct+ofNat 1) m):jIj 2 q ⟨s,m,now,ln,n,i,x.k,x.x⟩:=⟨hm.le (by have:=h.1.2.2; simp only [Int.ofNat_eq_natCast]; omega),h.2⟩
theorem in_j3 {q s now ln n i:Int} {x:XIj} (h:jIj 2 q x):jIj 2 q ⟨s,x.m,now,ln,n,i,x.k,x.x⟩:=⟨h.1,h.2⟩
theorem in_i {x y:XIj} {now ln n i:Int} (hi:iIj x) (hs:decide (x.s < ofNat 200)=true) (h:jIj 2 x.s y):iIj ⟨i64.wrap (x.s+ofNat 1),y.m,now,ln,n,i,y.k,y.x⟩:=by
 have h1:=s_lt hs
 have h2:=hi.1
 have h3:i64.wrap (x.s+ofNat 1)=x.s+1:=w64 (by simp only [Int.ofNat_eq_natCast]; omega)
 rw [h3]
 exact ⟨(by show 0<=x.s+1; omega),h.1.le (by show _<=2000000+2 * (x.s+1); omega),h.2⟩
theorem in_mu {x:XIj} (hi:iIj x) (hs:decide (x.s < ofNat 200)=true):(ofNat 200 - i64.wrap (x.s+ofNat 1)).toNat < (ofNat 200 - x.s).toNat:=by
 have h1:=s_lt hs
 have h2:=hi.1
 have h3:i64.wrap (x.s+ofNat 1)=x.s+1:=w64 (by simp only [Int.ofNat_eq_natCast]; omega)
 rw [h3]
 simp only [Int.ofNat_eq_natCast]
 omega
theorem in_di {x y:XIj} {n:Nat} (hn:n<=1000000) (hi:iIj x) (hs:decide (x.s < ofNat 200)=true) (h:jIj 1 x.s y):n<=1000000/\okMw (ofNat 1000000000) y.m:=by
 have h1:=s_lt hs
 exact ⟨hn,h.1.le (by simp only [Int.ofNat_eq_natCast]; omega)⟩
theorem in_ex {q:Int} {y:XIj} (h:jIj 1 q y):∃ m,okMw (y.m.ct+ofNat 1) m:=⟨y.m,h.1.now.le (by simp only [Int.ofNat_eq_natCast]; omega)⟩
theorem in_r {x:XIj} {n:Nat} (hi:iIj x) (h:decide (x.s < (n:Int))=true):ofNat 0<=x.s/\x.s < n:=⟨hi.1,of_decide_eq_true h⟩
theorem in_r2 {x:XIj} {n:Nat} (hi:iIj x) (h:decide (x.s < (n:Int))=true):0 < 1/\0+x.s.toNat < n:=by
 have h1:=hi.1
 have h2:x.s < n:=of_decide_eq_true h
 omega
theorem at_ok {c i:Int} (h:c<=1000000):zdz i c (ofNat 4) (ofNat 1):=by
 refine ⟨fun h1 h2=>?_,?_,?_⟩<;>simp only [Int.ofNat_eq_natCast] at *<;>omega
theorem ln_eq {l:Int} {n m:Nat} (h:(l == ofNat n)=true) (hm:i64.wrap (ofNat n+ofNat 1)=ofNat m):i64.wrap (l+ofNat 1)=ofNat m:=by
 rw [eq_of_beq h]; exact hm
theorem gt_le {a b:Int} (g:decide (a<=b)=true) (h:decide (a > b)=true):False:=by
 have h1:a > b:=of_decide_eq_true h
 have h2:a<=b:=of_decide_eq_true g
 omega
theorem ngt_nle {a b:Int} (g:decide (a<=b)=false) (h:decide (a > b)=false):False:=by
 have h1:¬ (a > b):=of_decide_eq_false h
 have h2:¬ (a<=b):=of_decide_eq_false g
 omega
theorem z_ok:wW (ofNat 0):=⟨Int.le_refl 0,(by decide:(0:Int)<=18446744073709551615)⟩
theorem i_0 {m:Mm} {now ln n i:Int} (h:okMw 2000000 m):iIj ⟨ofNat 0,m,now,ln,n,i,ofNat 0,ofNat 0⟩:=⟨Int.le_refl 0,h.le (by show (2000000:Int)<=2000000+2 * 0; decide),z_ok,z_ok⟩
theorem vhIj {c:Cf} {v:Ev} {d t:Int} {cf ln lc:Nat} {g:Nat->Int} (h:okMi c v):zae (vIj c v d t cf ln lc g iIj (jIj 1) (jIj 2)):=by
 obtain ⟨h0,h1,h2,h3,h4,h5,h6⟩:=h
 refine zae.pr (vIj_eq ..) ?_
 (repeat' first | with_reducible exact V.okI | with_reducible refine V.brT ?_ | with_reducible refine V.brF ?_ | with_reducible refine V.brI ?_ ?_ | with_reducible refine V.anyI ?_ | with_reducible refine nN_h rfl ?_ | with_reducible refine V.needI ?_ ?_ | with_reducible intro _)
 all_goals first
  | assumption
  | exact True.intro
  | exact Nat.zero_le _
  | exact ⟨Nat.le_refl _,by assumption⟩
  | exact ⟨h2,h3,Nat.zero_le _⟩
  | (subst_vars; rfl)
  | exact in_j ‹_› ‹_› ‹_› (by first | exact wrap_ok _ | exact val_ok (And.left (And.right (by assumption:iIj _))) | exact (And.right (And.right (by assumption:iIj _))).1 | exact (And.right (And.right (by assumption:iIj _))).2) (by first | exact (And.right (And.right (by assumption:iIj _))).1 | exact pkW_ok _ _ _) (by first | exact (And.right (And.right (by assumption:iIj _))).2 | exact val_ok (And.left (And.right (by assumption:iIj _))))
  | exact in_j2 ‹_›
  | exact in_j2d ‹_› ‹_›
  | exact in_j3 ‹_›
  | exact in_i ‹_› ‹_› ‹_›
  | exact in_mu ‹_› ‹_›
  | exact in_di h2 ‹_› ‹_› ‹_›
  | exact in_ex ‹_›
  | exact in_r ‹_› ‹_›
  | exact in_r2 ‹_› ‹_›
  | exact at_ok h0
  | exact ln_eq ‹_› (by decide)
  | exact i_0 h6
  | (exfalso; exact gt_le (by with_reducible assumption) (by with_reducible assumption))
  | (exfalso; exact ngt_nle (by with_reducible assumption) (by with_reducible assumption))
  | (exfalso; exact in_ct ‹_› ‹_› ‹_› ‹_›)
  | decide
  | exact Nat.zero_lt_one
  | exact Int.le_refl 0
  | exact ⟨v.m,trivial⟩
  | exact ⟨by decide,by decide,Int.natCast_nonneg _⟩
  | trace_state
end Go.Proofs.YtmbploaccpecbaaGreat.En
/- Match for Insert of the injector: the contract. -/
namespace Go.Proofs.YtmbploaccpecbaaGreat.En
open Go Go.RowKit Sx Cn Dc Ck Vc Md
theorem nMi {c:Cf} {v:Ev} {d t:Int} {cf ln lc:Nat} {g:Nat->Int}:zah P fMt (argMt insX ln lc) (hMt c v (insB d t (.ki .i64 1) z6 z6 zU zU) (insF d t (.ki .i64 1) z6 z6 zU zU) cf ln g) 18 (yesO 18 (okMi c v)):=zal conIj_ok fun h=>vhIj h
theorem cMj_ok:zab P fMt cMj:=zac fun args H=>by
 unfold cMj
 simp only [fN_eq]
 repeat' split
 all_goals first
  | exact .inl ⟨_,rfl⟩
  | with_reducible exact .inr ⟨_,_,_,_,_,rfl,nMi⟩
end Go.Proofs.YtmbploaccpecbaaGreat.En
/- Environments that agree: what a law needs of them. -/
namespace Go.Proofs.YtmbploaccpecbaaGreat.En
open Go Go.RowKit Sx Cn Dc Ck Vc Md
theorem nc_4 {c:Cf} (h:okY c):4<=ncN c/\ncN c<=1000000:=by
 have W:=(wy h).t
 have hn:=nc_bd h
 obtain ⟨h1,h2,h3,h4,h5,h6⟩:=h
 unfold ncN ncI at *
 omega
theorem ev_ex {c:Cf} (h:okY c):∃ v,okEv c v:=by
 have hT:c.T.toNat<=1000000:=by have:=h.2.2.2.1; omega
 exact ⟨⟨clOf c (fun e=>c.lenP e) c.nP c.nU,ncN c,⟨fun _=>0,0,0,0,0,0⟩,⟨c.T.toNat,fun _=>0,fun _=>0,fun _=>0,fun _=>0,fun _=>0,fun _=>0,fun _ _=>0,fun _=>false⟩,0,0,⟨ncN c,c.T.toNat,fun _=>0,0⟩,⟨ncN c,c.T.toNat,fun _=>0,0⟩⟩,
  is_cl c,rfl,rfl,⟨hT,fun _=>Nat.zero_le _⟩,fun _ _=>Nat.zero_le _,fun _ _=>Nat.zero_le _,Nat.le_refl _,Nat.le_refl _,Nat.le_refl _,Nat.le_refl _,fun _=>⟨Int.le_refl 0,(by decide:(0:Int)<=18446744073709551615)⟩,Int.le_refl 0,(by decide:(0:Int)<=1000000)⟩
section
variable {c:Cf} {v:Ev}
theorem ev_d (h:okEv c v):v.d.W=c.W/\v.d.L=c.L/\v.d.C=c.C/\v.d.T=c.T/\v.d.D=c.D/\v.d.H=c.H/\v.d.B=c.B/\v.d.A=c.A/\v.d.P=c.P:=by
 obtain ⟨⟨FD,rd,cd,hcl,e2⟩,_⟩:=h
 rw [e2]
 exact ⟨rfl,rfl,rfl,rfl,rfl,rfl,rfl,rfl,rfl⟩
theorem ev_ka (h:okEv c v) {i:Nat} (hi:i < v.x.n):v.x.kl i<=upto v.x.n v.x.kl i/\v.x.kl i<=v.a.k i:=⟨by unfold upto; rw [if_pos hi]; exact Nat.le_refl _,h.2.2.2.2.1 i hi⟩
theorem ev_kb (h:okEv c v) {i:Nat} (hi:i < v.x.n):v.x.kl i<=upto v.x.n v.x.kl i/\v.x.kl i<=v.b.k i:=⟨by unfold upto; rw [if_pos hi]; exact Nat.le_refl _,h.2.2.2.2.2.1 i hi⟩
theorem ev_ra (h:okEv c v):v.x.n<=v.x.n/\v.x.n<=v.a.r:=⟨Nat.le_refl _,h.2.2.2.2.2.2.2.2.1⟩
theorem ev_rb (h:okEv c v):v.x.n<=v.x.n/\v.x.n<=v.b.r:=⟨Nat.le_refl _,h.2.2.2.2.2.2.2.2.2.1⟩
end
end Go.Proofs.YtmbploaccpecbaaGreat.En
