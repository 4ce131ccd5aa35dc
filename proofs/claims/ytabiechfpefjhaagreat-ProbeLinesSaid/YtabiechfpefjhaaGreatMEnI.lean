/- A part of the proof. -/
import Derived.Test.YtabiechfpefjhaaGreatMMdLo
import Derived.Test.YtabiechfpefjhaaGreatMMdRk
import Derived.Test.YtabiechfpefjhaaGreatMW
import Derived.Test.YtabiechfpefjhaaGreatMV
import Derived.Test.YtabiechfpefjhaaGreatMEn
import Derived.Test.YtabiechfpefjhaaGreatMMd
set_option linter.unusedVariables false
set_option linter.unusedSimpArgs false
set_option maxRecDepth 100000
open Go.IntKind (i64 u64)
open Int renaming ofNat -> O, ofNat_eq_natCast -> zz
open Nat renaming le_refl -> Z
open Go.Proofs.YtabiechfpefjhaaGreat.Sx.V renaming need -> U
namespace Go.Proofs.YtabiechfpefjhaaGreat.En
open Go Go.RowKit Sx Cn Dc Ck Vc Md
noncomputable section
end
noncomputable section
def outXP(d a t:Int):Out (SV×Hp):=.leaf (.t [.c (uw (pkW d a t)),.c (.bv (pkB d a t))],⟨[],0,fun _=>True⟩)
theorem bareP{f:FuncId}{d a t:Int}(h:zah P f [iv d,iv a,iv t] [] 0 (.need True (.any (Int×Bool) (fun p=>p=(pkW d a t,pkB d a t)) fun p=>.leaf (.t [.c (uw p.1),.c (.bv p.2)],⟨[],0,fun _=>True⟩)))):zah P f [iv d,iv a,iv t] [] 0 (outXP d a t):=
 h.mono fun K hK=>⟨trivial,⟨_,rfl⟩,fun r hr=>by subst hr;exact hK⟩
def xPk:List SV->Hp->Out (SV×Hp):=fun args H=>match nums args with
 | some [d,a,t]=>useP [] 0 [iv d,iv a,iv t] [] (outXP d a t) args H
 | _=>.bad 484
theorem xRP_ok:zab P fRP xPk:=zac fun args H=>by
 unfold xPk
 repeat' split
 all_goals first|exact .inl ⟨_,rfl⟩|exact .inr ⟨_,_,_,_,_,rfl,bareP (zae conPk_ok fun _=>vhRP)⟩
def xRU:List SV->Hp->Out (SV×Hp):=fun args H=>match nums args with
 | some [k]=>useP [] 0 [.c (uw k)] [] (.need (0<=k/\k<=18446744073709551615) (.any (Int×Int) (fun _=>True) fun p=>.leaf (.t [.c (i6 p.1),.c (i6 p.2),.c (i6 (tkW k))],⟨[],0,fun _=>True⟩))) args H
 | _=>.bad 484
theorem xRU_ok:zab P fRU xRU:=zac fun args H=>by
 unfold xRU
 repeat' split
 all_goals first|exact .inl ⟨_,rfl⟩|exact .inr ⟨_,_,_,_,_,rfl,(zae conPk_ok fun h=>vhRU h).mono fun K hK=>⟨hK.1,⟨(0,0,_),rfl⟩,fun p hp=>by have:=hK.2.2 (p.1,p.2.1) trivial;rw[<-hp]at this;exact this⟩⟩
end
noncomputable section
def fMt:FuncId:=11
def tFr:TypeId:=64
def tMa:TypeId:=95
def eVw(c:Cf)(v:Ev):Blk:=.view 1 (fun _=>1) ([c.W,c.L,c.C,c.T,c.D,c.H,c.B,c.A,c.P].map (fun x=>ck1 (i6 x))++[.cu,.cu]++(layL c).map ck1++[ck1 (.ptr 1 (.k 0) (.k 0) 0 6),ck1 (.ptr 3 (.k 0) (.k 0) 0 2),ck1 (slK 4 7 v.x.n v.a.r),ck1 (slK 6 5 0 v.a.e)])
def evV:Blk:=.view 1 (fun _=>0) noEv
def z6:SC:=.ki .i64 0
def zU:SC:=.ki .u64 0
def frF(kind:Int)(ln a b d i j n t u v w x:SC):List Col:=[ck1 (.ki .i64 kind),ck1 ln,ck1 z6,ck1 z6,ck1 z6,ck1 z6,ck1 a,ck1 b,ck1 d,ck1 i,ck1 j,ck1 n,ck1 t,ck1 u,ck1 v,ck1 w,ck1 x,ck1 .nils]
def maB(k n cap:Nat):Blk:=.own tMa 4 ([.slc k (.k 0) (.k 0) 18 (.k n) (.s cap),.kb false,.ki .i64 0,.ki .i64 0].map some)
def hMt(c:Cf)(v:Ev)(mb:Blk)(fc:List Col)(cf:Nat)(ln:Nat)(g:Nat->Int):HL:=[(0,eVw c v),(1,pmB 2 v.n v.a.c v.m),(2,wRow v.a.c v.n v.m),(3,clkB v.now v.dr),(4,v.x.rowV 5 v.a.k),(5,v.x.famV),(6,evV),
 (7,(eR c v).b 12 13 8 9 11),(8,wRow v.b.c v.n v.m),(9,v.x.rowV 10 v.b.k),(10,v.x.famV),(11,evV),(12,dum 1),(13,dum 3),(14,mb),(15,maB 16 1 cf),(16,.row tFr cf 1 fc),(17,.view 1 (fun _=>ln) [.ci .i64 fun _ e=>g e])]
def ekK(t:Nat)(s:St):Nat:=scK (zax (tmK t s) 23 s.H.h)
def frKi(t:Nat)(s:St):Nat:=scK (zax (tmK t s) 0 s.H.h)
def tmV(t:Nat)(s:St):Option SV:=(s.tmps[t]?).join
def rdMt(ke kr:Nat)(h:HL):Option (Cf×Ev×List Nat×List Nat):=fN (scK (zax ke 22 h)) fun km=>fN (scK (zax ke 23 h)) fun kk=>match ceS ke 24 h,ceS ke 25 h,rdRv kr h with
 | some (e4,xn,xr),some (e5,_,er),some (r,[_,r1,kP,kU,r4,r5])=>match rdMm h km,rdRk e4 xn h,kidK r4 h with
  | some y,some (x,f1,c1),some (f2,c2)=>some (r.c,⟨r.c,y.len.v,y.m,x,r.now,r.dr,⟨y.cap.v,xr,c1,er⟩,⟨r.cap,r.rc,c2,r.nc⟩⟩,[ke,km,y.kc,kk,e4,f1,e5,kr,r1,r4,f2,r5],[kP,kU])
  | _,_,_=>none
 | _,_,_=>none
end
def wW(x:Int):Prop:=0<=x/\x<=18446744073709551615
theorem ct_no{m x:Mm}{n:Nat}{k a y b:Int}(hm:okMw b m)(hb2:b<=9000000000)(hb:decide (x.ct>i64.wrap (m.ct+O 1))=true)(h:x=m.acc n k a y):False:=by
 subst h
 have h1:=hm.2.1
 have h2:=hm.2.2
 have h3:i64.wrap (m.ct+1)=m.ct+1:=w64 (by omega)
 have hb:(m.acc n k a y).ct>i64.wrap (m.ct+1):=of_decide_eq_true hb
 unfold Mm.acc at hb
 cases hi:inb n a with
 | false=>
  rw[hi]at hb
  have hb:m.ct>i64.wrap (m.ct+1):=hb
  omega
 | true=>
  rw[hi]at hb
  have hb:i64.wrap (m.ct+1)>i64.wrap (m.ct+1):=hb
  omega
theorem val_ok{m:Mm}{b:Int}{n:Nat}{a:Int}(h:okMw b m):wW (m.val n a):=by
 unfold Mm.val
 cases inb n a with
 | false=>exact⟨Int.le_refl 0,(by decide:(0:Int)<=18446744073709551615)⟩
 | true=>exact h.1 _
structure Sc where
 n:Nat
 cap:Nat
 ka:Nat->Int
 va:Nat->Int
structure Xsc where
 i:Int
 l:Sc
noncomputable section
def Sc.row(l:Sc):Blk:=.row 105 l.cap l.n [.ci .i64 fun _ e=>l.ka e,.ci .i64 fun _ e=>l.va e]
def rdSc(k:Nat)(h:HL):Option Sc:=match find k h with
 | some (.row _ cap n [.ci _ f,.ci _ g])=>some ⟨n,cap,fun e=>f 0 e,fun e=>g 0 e⟩
 | _=>none
def laSc(I:Xsc->Prop)(len:Nat)(s:St):Option (LA Xsc):=fN (tmK 3 s) fun k3=>
 some ⟨[(tmK 3,false)],fun q=>[q.l.row],[4,3],fun q=>[iv q.i,.c (slK k3 2 q.l.n q.l.cap)],fun s=>match tmI 4 s,rdSc (tmK 3 s) s.H.h with|some i,some l=>some ⟨i,l⟩|_,_=>none,I,fun q=>len+1-q.i.toNat⟩
def fDe:FuncId:=27
def vDe(len cap:Nat)(g:Nat->Int)(I:Xsc->Prop)(Φ:Sc->Prop):V:=verF P con0 6 8 fDe [] (.loop Xsc [.nilTmp 3 105 2 [.ci .i64 fun _ _=>0,.ci .i64 fun _ _=>0]] (laSc I len) .nil .nil) [.c (slK 0 1 len cap)] ⟨[(0,ints .u8 len g)],1,fun _=>True⟩
 (finV (X:=Sc) 1 2 (fun s H=>rdSc (tupK s) H.h) (fun s _=>[tupK s]) Φ (fun l=>.c (slK 1 2 l.n l.cap)) (fun l=>[(1,l.row)]))
def okDe(l:Sc):Prop:=l.n<=l.cap/\l.n<=65536
def cDe:List SV->Hp->Out (SV×Hp):=fun args H=>match args with
 | [.c (.slc kb _ _ _ len cap)]=>match rowFn H.h kb 0 with
  | some g=>useP [kb] 1 [.c (slK 0 1 len.v cap.v)] [(0,ints .u8 len.v g)] (.need (len.v<=1000000) (.any Sc okDe fun l=>.leaf (.c (slK 1 2 l.n l.cap),⟨[(1,l.row)],2,fun _=>True⟩))) args H
  | _=>.bad 420
 | _=>.bad 421
def fSc:FuncId:=8
def conSc:Con:=Con.add fDe cDe con0
def vSc(len cap:Nat)(g:Nat->Int)(m:Int)(Φ:Sc->Prop):V:=verF P conSc 6 8 fSc [] .nil [.c (slK 0 1 len cap),iv m] ⟨[(0,ints .u8 len g)],1,fun _=>True⟩
 (finV (X:=Sc) 1 2 (fun s H=>match s,rdSc (tupK s) H.h with|.c (.slc _ _ _ _ n _),some l=>some ⟨n.v,l.cap,l.ka,l.va⟩|_,_=>none) (fun s _=>[tupK s]) Φ (fun l=>.c (slK 1 2 l.n l.cap)) (fun l=>[(1,l.row)]))
end
abbrev ni0(a0:Sc)(a1:Nat->Int)(a2:Xsc)(k:V):V:=U (a0.n+1<=a0.n+1) (nN [qF (a0.n+1) (fun (e:Nat)=>if 0=0/\e=a0.n then(i64.wrap (a1 (0+a2.i.toNat))).tmod (O 4) else a0.ka e)] k)
abbrev ni1(a0:Xsc->Prop)(a1:Xsc)(a2:Sc)(a3:Nat)(a4:Nat->Int)(a5:Nat)(k:V):V:=U (a0 (Xsc.mk (i64.wrap (a1.i+O 2)) (Sc.mk (a2.n+1) a3 (fun (e:Nat)=>if 0=0/\e=a2.n then(i64.wrap (a4 (0+a1.i.toNat))).tmod (O 4) else a2.ka e) fun (e:Nat)=>if 0=0/\e=a2.n then O 0 else a2.va e))) (U (a5+1-(i64.wrap (a1.i+O 2)).toNat<a5+1-a1.i.toNat) k)
abbrev ni2(a0:Sc)(k:Nat->V):V:=U (a0.n<=a0.n/\a0.cap=a0.cap) (U (a0.n+1<=9223372036854775807/\(a0.n+1)*16<=140737488355328) (V.any Nat (fun (x_1:Nat)=>a0.n+1<=x_1) fun v0=>k v0))
abbrev nis0(y0:Xsc)(I:Xsc->Prop)(g:Nat->Int)(len:Nat):V:=nN [(2,.lt 0 1)] (ni2 y0.l fun y1=>ni1 I y0 y0.l y1 g len (nN [qE (i64.wrap (y0.i+O 2)),qE (y0.l.n+1),qE y1,qE y1] (ni0 y0.l g y0 (nN [qF (y0.l.n+1) (fun (e:Nat)=>if 0=0/\e=y0.l.n then O 0 else y0.l.va e)] V.ok))))
theorem vDe_eq(len cap:Nat)(g:Nat->Int)(I:Xsc->Prop)(Φ:Sc->Prop):V.pr .z (vDe len cap g I Φ)=
 U (I (Xsc.mk (O 0) (Sc.mk 0 0 (fun (e:Nat)=>O 0) fun (e:Nat)=>O 0))) (nN [(1,.eqI 0 0),(3,.eq 0 0),(1,.le 0 0),qF 0 (fun (e:Nat)=>O 0),qF 0 (fun (e:Nat)=>O 0)] (V.any Xsc I fun y0=>V.br (decide (i64.wrap (y0.i+O 1)<(↑len:Int))) (V.br (decide ((↑y0.l.n:Int)<O 65536)) (U (O 0<=y0.i/\y0.i<(↑len:Int)) (U (0<1/\0+y0.i.toNat<len) (U (0<1/\0+y0.i.toNat<len) (nN [(1,.neI 4 0)] (U (O 0<=i64.wrap (y0.i+O 1)/\i64.wrap (y0.i+O 1)<(↑len:Int)) (U (0<1/\0+(i64.wrap (y0.i+O 1)).toNat<len) (U (0<1/\0+(i64.wrap (y0.i+O 1)).toNat<len) (V.br ((i64.wrap (g (0+y0.i.toNat))).tmod (O 4) == O 1) (nis0 y0 I g len) (V.br ((i64.wrap (g (0+y0.i.toNat))).tmod (O 4) == O 3) (nis0 y0 I g len) (nN [(2,.lt 0 1)] (ni2 y0.l fun y1=>U (I (Xsc.mk (i64.wrap (y0.i+O 2)) (Sc.mk (y0.l.n+1) y1 (fun (e:Nat)=>if 0=0/\e=y0.l.n then(i64.wrap (g (0+y0.i.toNat))).tmod (O 4) else y0.l.ka e) fun (e:Nat)=>if 0=0/\e=y0.l.n then i64.wrap (g (0+(i64.wrap (y0.i+O 1)).toNat)) else y0.l.va e))) (U (len+1-(i64.wrap (y0.i+O 2)).toNat<len+1-y0.i.toNat) (nN [qE (i64.wrap (y0.i+O 2)),qE (y0.l.n+1),qE y1,qE y1] (ni0 y0.l g y0 (nN [qF (y0.l.n+1) (fun (e:Nat)=>if 0=0/\e=y0.l.n then i64.wrap (g (0+(i64.wrap (y0.i+O 1)).toNat)) else y0.l.va e)] V.ok))))))))))))))) (U (Φ y0.l) (nN [qE y0.l.n,qE y0.l.cap,qE y0.l.cap,qL y0.l.n,qF y0.l.n y0.l.ka,qF y0.l.n y0.l.va] V.ok))) (U (Φ y0.l) (nN [qE y0.l.n,qE y0.l.cap,qE y0.l.cap,qL y0.l.n,qF y0.l.n y0.l.ka,qF y0.l.n y0.l.va] V.ok)))):=by kernel_rfl
theorem vSc_eq(len cap:Nat)(g:Nat->Int)(m:Int)(Φ:Sc->Prop):V.pr .z (vSc len cap g m Φ)=
 nN [qE len,qE cap,(1,.le 1 1),(1,.pf (∀(i:Nat),i<1->len<=len) (by intros;exact Z _)),(1,.pf (∀(i e:Nat),i<1/\e<len->g e=g e) (by intros;rfl))] (U (len<=1000000) (nA okDe fun y0=>V.br (decide ((↑y0.n:Int)>m)) (U (O 0<=O 0/\O 0<=m/\m<=(↑y0.cap:Int)) (U (Φ { y0 with n:=m.toNat }) (nN [qE m.toNat,qE y0.cap,qE y0.cap] (U (m.toNat<=y0.n) (nN [qF m.toNat y0.ka,qF m.toNat y0.va] V.ok))))) (U (Φ y0) (nN [qE y0.n,qE y0.cap,qE y0.cap,qL y0.n,qF y0.n y0.ka,qF y0.n y0.va] V.ok)))):=by kernel_rfl
def ISc(len:Nat)(x:Xsc):Prop:=(0<=x.i/\x.i<=(len:Int)+1)/\x.l.n<=x.l.cap/\x.l.n<=65536
section
variable {len:Nat} {x:Xsc}
theorem sc_w1(hl:len<=1000000)(h:ISc len x):i64.wrap (x.i+O 1)=x.i+1:=by
 have:=h.1
 exact w64 (by simp only[zz];omega)
theorem sc_w2(hl:len<=1000000)(h:ISc len x):i64.wrap (x.i+O 2)=x.i+2:=by
 have:=h.1
 exact w64 (by simp only[zz];omega)
theorem sc_ix(hl:len<=1000000)(h:ISc len x)(hc:decide (i64.wrap (x.i+O 1)<(len:Int))=true):(O 0<=x.i/\x.i<(len:Int))/\(0<1/\0+x.i.toNat<len)/\(O 0<=i64.wrap (x.i+O 1)/\i64.wrap (x.i+O 1)<(len:Int))/\(0<1/\0+(i64.wrap (x.i+O 1)).toNat<len)/\len+1-(i64.wrap (x.i+O 2)).toNat<len+1-x.i.toNat:=by
 have h1:=of_decide_eq_true hc
 have h2:=h.1
 rw[sc_w2 hl h]
 rw[sc_w1 hl h]at h1 ⊢
 simp only[zz]
 omega
theorem sc_mx(h:ISc len x):x.l.n+1<=9223372036854775807/\(x.l.n+1)*16<=140737488355328:=by
 have:=h.2
 omega
theorem sc_s(hl:len<=1000000)(h:ISc len x)(hc:decide (i64.wrap (x.i+O 1)<(len:Int))=true)(hn:decide ((x.l.n:Int)<O 65536)=true){k:Nat}(hk:x.l.n+1<=k){f g:Nat->Int}:ISc len ⟨i64.wrap (x.i+O 2),⟨x.l.n+1,k,f,g⟩⟩:=by
 have h1:=of_decide_eq_true hc
 have h3:=of_decide_eq_true hn
 have h2:=h.1
 rw[sc_w1 hl h]at h1
 simp only[zz]at h3
 refine⟨⟨?_,?_⟩,hk,?_⟩
 ·show 0<=i64.wrap _
  rw[sc_w2 hl h];omega
 ·show i64.wrap _<=_
  rw[sc_w2 hl h];omega
 ·show x.l.n+1<=65536
  omega
end
theorem vhDe{len cap:Nat}{g:Nat->Int}(hl:len<=1000000):zad (vDe len cap g (ISc len) okDe):=by
 refine zad.pr (vDe_eq ..) ?_
 (with_reducible repeat' first|exact V.okI|refine V.brT ?_|refine V.brF ?_|refine V.brI ?_ ?_|refine V.anyI ?_|refine nN_h rfl ?_|refine V.needI ?_ ?_|intro _)
 all_goals first
  | rfl
  | assumption
  | exact Z _
  | exact⟨Z _,rfl⟩
  | exact⟨⟨Int.le_refl _,by show(0:Int)<=(len:Int)+1;omega⟩,Z _,Nat.zero_le _⟩
  | exact sc_mx ‹_›
  | (rename_i x hx hc hn;exact(sc_ix hl hx hc).1)
  | (rename_i x hx hc hn;exact(sc_ix hl hx hc).2.1)
  | (rename_i x hx hc hn;exact(sc_ix hl hx hc).2.2.1)
  | (rename_i x hx hc hn;exact(sc_ix hl hx hc).2.2.2.1)
  | (rename_i x hx hc hn _ y hy;exact(sc_ix hl hx hc).2.2.2.2)
  | (rename_i x hx hc hn _ _ y hy;exact(sc_ix hl hx hc).2.2.2.2)
  | (rename_i x hx hc hn _ y hy;exact sc_s hl hx hc hn hy)
  | (rename_i x hx hc hn _ _ y hy;exact sc_s hl hx hc hn hy)
  | exact And.right (by assumption:ISc _ _)
  | trace_state
theorem cDe_ok:zab P fDe cDe:=zac fun args H=>by
 unfold cDe
 repeat' split
 all_goals first|exact .inl ⟨_,rfl⟩|exact .inr ⟨_,_,_,_,_,rfl,zae zaj.nil fun h=>vhDe h⟩
def okSc(m:Int)(l:Sc):Prop:=l.n<=l.cap/\(l.n:Int)<=m
theorem vhSc{len cap:Nat}{g:Nat->Int}{m:Int}(hl:len<=1000000)(hm:0<=m):zad (vSc len cap g m (okSc m)):=by
  refine zad.pr (vSc_eq ..) ?_
  (with_reducible repeat' first|exact V.okI|refine V.brT ?_|refine V.brF ?_|refine V.brI ?_ ?_|refine V.anyI ?_|refine nN_h rfl ?_|refine V.needI ?_ ?_|intro _)
  all_goals first
    | rfl
    | exact hl
    | exact Z _
    | exact⟨⟨0,0,fun _=>0,fun _=>0⟩,Z _,Nat.zero_le _⟩
    | (rename_i x hx hc
       have h1:=of_decide_eq_true hc
       have h2:=hx.1
       first
         | (simp only[zz];omega)
         | (show m.toNat<=x.cap/\(m.toNat:Int)<=m;omega)
         | omega)
    | (rename_i x hx hc
       have h1:=of_decide_eq_false hc
       exact⟨hx.1,by show(x.n:Int)<=m;omega⟩)
    | trace_state
noncomputable section
theorem conSc_ok:zaj P conSc:=.add cDe_ok zaj.nil
def cSc:List SV->Hp->Out (SV×Hp):=fun args H=>match args with
 | [.c (.slc kb _ _ _ len cap),.c cm]=>match rowFn H.h kb 0,numC cm with
  | some g,some m=>useP [kb] 1 [.c (slK 0 1 len.v cap.v),iv m] [(0,ints .u8 len.v g)] (.need (len.v<=1000000/\0<=m) (.any Sc (okSc m) fun l=>.leaf (.c (slK 1 2 l.n l.cap),⟨[(1,l.row)],2,fun _=>True⟩))) args H
  | _,_=>.bad 420
 | _=>.bad 421
theorem cSc_ok:zab P fSc cSc:=zac fun args H=>by
 unfold cSc
 repeat' split
 all_goals first|exact .inl ⟨_,rfl⟩|exact .inr ⟨_,_,_,_,_,rfl,zae conSc_ok fun h=>vhSc h.1 h.2⟩
end
theorem nc_4{c:Cf}(h:okY c):4<=ncN c/\ncN c<=1000000:=by
 have W:=(wy h).t
 have hn:=nc_bd h
 obtain⟨h1,h2,h3,h4,h5,h6⟩:=h
 unfold ncN ncI at *
 omega
theorem ev_ex{c:Cf}(h:okY c):∃v,okEv c v:=by
 have hT:c.T.toNat<=1000000:=by have:=h.2.2.2.1;omega
 exact⟨⟨clOf c (fun e=>c.lenP e) c.nP c.nU,ncN c,⟨fun _=>0,0,0,0,0,0⟩,⟨c.T.toNat,fun _=>0,fun _=>0,fun _=>0,fun _=>0,fun _=>0,fun _=>0,fun _ _=>0,fun _=>false⟩,0,0,⟨ncN c,c.T.toNat,fun _=>0,0⟩,⟨ncN c,c.T.toNat,fun _=>0,0⟩⟩,
  is_cl c,rfl,rfl,⟨hT,fun _=>Nat.zero_le _⟩,fun _ _=>Nat.zero_le _,fun _ _=>Nat.zero_le _,Z _,Z _,Z _,Z _,fun _=>⟨Int.le_refl 0,(by decide:(0:Int)<=18446744073709551615)⟩,Int.le_refl 0,(by decide:(0:Int)<=1000000)⟩
section
variable {c:Cf} {v:Ev}
theorem ev_d(h:okEv c v):v.d.W=c.W/\v.d.L=c.L/\v.d.C=c.C/\v.d.T=c.T/\v.d.D=c.D/\v.d.H=c.H/\v.d.B=c.B/\v.d.A=c.A/\v.d.P=c.P:=by
 obtain⟨⟨FD,rd,cd,hcl,e2⟩,_⟩:=h
 rw[e2]
 exact⟨rfl,rfl,rfl,rfl,rfl,rfl,rfl,rfl,rfl⟩
theorem ev_ka(h:okEv c v){i:Nat}(hi:i<v.x.n):v.x.kl i<=upto v.x.n v.x.kl i/\v.x.kl i<=v.a.k i:=⟨by unfold upto;rw[if_pos hi];exact Z _,h.2.2.2.2.1 i hi⟩
theorem ev_kb(h:okEv c v){i:Nat}(hi:i<v.x.n):v.x.kl i<=upto v.x.n v.x.kl i/\v.x.kl i<=v.b.k i:=⟨by unfold upto;rw[if_pos hi];exact Z _,h.2.2.2.2.2.1 i hi⟩
theorem ev_ra(h:okEv c v):v.x.n<=v.x.n/\v.x.n<=v.a.r:=⟨Z _,h.2.2.2.2.2.2.2.2.1⟩
theorem ev_rb(h:okEv c v):v.x.n<=v.x.n/\v.x.n<=v.b.r:=⟨Z _,h.2.2.2.2.2.2.2.2.2.1⟩
end
end Go.Proofs.YtabiechfpefjhaaGreat.En
