/- A part of the proof. -/
import Derived.Test.YtabiechfpefjhaaGreatML
import Derived.Test.YtabiechfpefjhaaGreatMW
import Derived.Test.YtabiechfpefjhaaGreatMNw
import Derived.Test.YtabiechfpefjhaaGreatMNwLen
import Derived.Test.YtabiechfpefjhaaGreatMExec
set_option linter.unusedVariables false
set_option linter.unusedSimpArgs false
set_option maxRecDepth 100000
open Go.Proofs.YtabiechfpefjhaaGreat.Sx.V renaming need -> U
namespace Go.Proofs.YtabiechfpefjhaaGreat.Vc
open Go Go.RowKit Sx Cn Dc Ck
noncomputable section
abbrev uwn(n:Int):SC:=.iv .u64 n
abbrev i6n(n:Int):SC:=.iv .i64 n
def mOn(n cap:Nat)(lk lc lo ln ct:SC):Blk:=.own 116 6 ([.slc 1 (.k 0) (.k 0) 1 (.s n) (.s cap),lk,lc,lo,ln,ct].map some)
def h0S(g:Nat->Int)(n cap:Nat)(lk lc lo ln ct:Int):HL:=[(0,mOn n cap (i6n lk) (i6n lc) (uwn lo) (uwn ln) (i6n ct)),(1,.row 48 cap n [.ci .u64 fun _ e=>g e])]
def h1S(g:Nat->Int)(n cap:Nat)(kd a x:Int)(ct:Int):HL:=[(0,mOn n cap (i6n kd) (i6n a) (uwn (g a.toNat)) (uwn x) (i6n (IntKind.i64.wrap (ct+1)))),(1,.row 48 cap n [.ci .u64 fun _ e=>if e=a.toNat then x else g e])]
def finM(ret:SV)(g:Nat->Int)(n cap:Nat)(kd a x ct:Int):SV->Hp->V:=finV (X:=Unit) 2 2 (fun _ _=>some ()) (fun _ _=>[]) (fun _=>True) (fun _=>ret) (fun _=>h1S g n cap kd a x ct)
def ptMn:SV:=.c (.ptr 0 (.k 0) (.k 0) 0 6)
section
variable (g:Nat->Int) (n cap:Nat) (a v y lk lc lo ln ct:Int)
def verSt:V:=verF P con0 3 6 21 [] .nil [ptMn,.c (i6n a),.c (uwn v)] ⟨h0S g n cap lk lc lo ln ct,2,fun _=>True⟩ (finM (.t []) g n cap 2 a v ct)
end
end
abbrev zmems0(n cap:Nat)(lk lc a lo:Int)(g:Nat->Int)(ln v ct:Int):V:=U True (U (n=n) (U (cap=cap) (U (lk=Int.ofNat 2) (U (lc=a) (U (lo=g a.toNat) (U (ln=v) (U (ct=IntKind.i64.wrap (ct+Int.ofNat 1)) (U (cap=cap) (U (n<=n) (U (∀(e:Nat),e<n->g e=if e=a.toNat then v else g e) V.ok))))))))))
theorem verSt_eq(g:Nat->Int)(n cap:Nat)(a v lk lc lo ln ct:Int):verSt g n cap a v lk lc lo ln ct=
 V.br (decide (a<Int.ofNat 0)) (zmems0 n cap lk lc a lo g ln v ct) (V.br (decide (a >= (↑n:Int))) (zmems0 n cap lk lc a lo g ln v ct) (U (Int.ofNat 0<=a/\a<(↑n:Int)) (U (0+a.toNat<n) (U (0+a.toNat<n) (nN [(4,.lt2 0 1 0 1)] (U (Int.ofNat 0<=a/\a<(↑n:Int)) (U (0<1/\0+a.toNat<n) (U (0+a.toNat<n) (U (Int.ofNat 0<=a/\a<(↑n:Int)) (U (0+a.toNat<n) (U (0+a.toNat<n) (U True (U (n=n) (U (cap=cap) (nN [(1,.eqI 2 2)] (U (a=a) (U (g (0+a.toNat)=g a.toNat) (U ((if 0=0/\0+a.toNat=0+a.toNat then v else g (0+a.toNat))=v) (U (IntKind.i64.wrap (ct+Int.ofNat 1)=IntKind.i64.wrap (ct+Int.ofNat 1)) (U (cap=cap) (U (n<=n) (U (∀(e:Nat),e<n->(if 0=0/\e=0+a.toNat then v else g e)=if e=a.toNat then v else g e) V.ok)))))))))))))))))))))):=by kernel_rfl
theorem vhSt{g:Nat->Int}{n cap:Nat}{a v lk lc lo ln ct:Int}(h0:0<=a)(h1:a<n):zad (verSt g n cap a v lk lc lo ln ct):=by
 constructor
 rw[verSt_eq]
 refine V.brFo (by simp;omega) (V.brFo (by simp;omega) ?_)
 simp only[Nat.zero_add]
 (repeat' first|with_reducible exact V.okI|with_reducible refine V.brT ?_|with_reducible refine V.brF ?_|with_reducible refine V.brI ?_ ?_|with_reducible refine V.anyI ?_|with_reducible refine nN_h ?_ ?_|with_reducible refine V.needI ?_ ?_|intro _)
 all_goals first|rfl|omega|exact⟨h0,h1⟩|exact True.intro|(simp;done)|(refine⟨by decide,?_⟩;omega)
theorem pre_localn{f:FuncId}{args:List SV}{h0 h1:HL}{n:Nat}{post:Out (SV×Hp)}(h:zah P f args h1 n post)(hle:∀k b,find k h1=some b->∃c,find k h0=some c/\zdp c b):zah P f args h0 n post:=by
 intro φ ρ w vs K hi hv hh
 have hinv:HInv φ ρ ⟨h1,n,fun _=>True⟩ w:=by
  refine⟨hi.fr,hi.up,?_,?_,?_,?_,?_⟩
  ·intro k b hf;obtain⟨c,hc,_⟩:=hle k b hf;exact hi.lt k c hc
  ·intro k b hf;obtain⟨c,hc,hl⟩:=hle k b hf;exact Blk.sat_le hl (hi.sat k c hc)
  ·intro k b hf i hli y o hy;obtain⟨c,hc,hl⟩:=hle k b hf;exact hi.bd k c hc i (zao hl hli) y o hy
  ·intro k b hf hr i hli y o hy;obtain⟨c,hc,hl⟩:=hle k b hf;exact hi.may k c hc (zbh hl hr) i (zao hl hli) y o hy
  ·intro k b hf hr k' b' hf' hne j i hj hi' y o y' o' hy hy'
   obtain⟨c,hc,hl⟩:=hle k b hf
   obtain⟨c',hc',hl'⟩:=hle k' b' hf'
   exact hi.sep k c hc (zbh hl hr) k' c' hc' hne j i (zao hl hj) (zao hl' hi') y o y' o' hy hy'
 refine(h φ ρ w vs K hinv hv hh).mono ?_
 rintro e w' ⟨v,ρ',sv,H',a1,a2,a3,a4,a5,a6⟩
 exact⟨v,ρ',sv,H',a1,a2,a3,⟨a4.nxt,a4.D⟩,a5,a6⟩
theorem allI_ck{l:List SC}(hl:allI .u64 l=true){I:Nat->Nat->Prop}:∀(m:List SC) (j:Nat),allI .u64 m=true->(∀e,zbu m e=zbu l (j+e))->leCk I .u64 (fun _ e=>zbu l e) j m
 | [],j,_,_=>trivial
 | c::m,j,hm,hn=>by
  simp only[allI,Bool.and_eq_true]at hm
  refine⟨fun i _=>?_,allI_ck hl m (j+1) hm.2 fun e=>?_⟩
  ·have h0:=hn 0
   have h1:=hm.1
   rw[Nat.add_zero]at h0
   show leSC c (.iv .u64 (zbu l j))
   rw[<-h0]
   cases c<;>simp[asI]at h1
   all_goals (have hk:=zap h1;subst hk;exact⟨rfl,rfl⟩)
  ·have:=hn (e+1)
   simp only[zbu,List.getElem?_cons_succ]at this ⊢
   rw[this]
   congr 2
   omega
noncomputable section
def mKn(len cap:NV)(lk lc lo ln ct:SC):Blk:=.own 116 6 ([.slc 1 (.k 0) (.k 0) 1 len cap,lk,lc,lo,ln,ct].map some)
def hK(l:List SC)(len cap:NV)(lk lc lo ln ct:SC):HL:=[(0,mKn len cap lk lc lo ln ct),(1,.row 48 cap.v len.v [.ck l])]
def atK(l:List SC)(j:Nat):SC:=match l[j]? with|some c=>c|none=>.nilp
def hK1(l:List SC)(len cap:NV)(kd a:Int)(new:SC)(kn:Bool)(ct:Int):HL:=[(0,mKn len cap (.ki .i64 kd) (.ki .i64 a) (atK l a.toNat) new (knI kn .i64 (IntKind.i64.wrap (ct+1)))),(1,.row 48 cap.v len.v [.ck (l.set a.toNat new)])]
end
theorem pre_K{l:List SC}{len cap:NV}{lk lc lo ln ct:Int}(hl:allI .u64 l=true)(hn:l.length=len.v)(k:Nat)(b:Blk)(hf:find k (h0S (zbu l) len.v cap.v lk lc lo ln ct)=some b):
  ∃c,find k (hK l len cap (i6n lk) (i6n lc) (uwn lo) (uwn ln) (i6n ct))=some c/\zdp c b:=by
 unfold h0S at hf
 unfold hK
 rw[zag]at hf ⊢
 split at hf
 ·cases hf
  exact⟨_,if_pos ‹_›,rfl,rfl,⟨rfl,rfl,rfl,rfl,rfl,rfl⟩,⟨rfl,rfl⟩,⟨rfl,rfl⟩,⟨rfl,rfl⟩,⟨rfl,rfl⟩,⟨rfl,rfl⟩,trivial⟩
 ·rename_i h
  rw[if_neg h]
  rw[zag]at hf ⊢
  split at hf
  ·cases hf
   refine⟨_,if_pos ‹_›,rfl,rfl,Nat.le_refl _,?_,trivial⟩
   exact⟨fun i e hi=>by have:=hi.2;omega,allI_ck hl l 0 hl fun e=>by rw[Nat.zero_add]⟩
  ·cases hf
theorem same_K{l:List SC}{len cap:NV}{kd a x ct:Int}{new:SC}{kn:Bool}(hl:allI .u64 l=true)(hn:l.length=len.v)(ha:a.toNat<l.length)(hx:∀ρ,new.den ρ=(uwn x).den ρ):
  HLE (h1S (zbu l) len.v cap.v kd a x ct) (hK1 l len cap kd a new kn ct):=by
 have hat:l[a.toNat]?=some (atK l a.toNat):=by
  unfold atK
  rw[List.getElem?_eq_getElem ha]
 refine⟨⟨rfl,rfl,rfl,⟨(fun _=>rfl:SCe _ _),fun _=>rfl,fun _=>rfl,fun ρ=>?_,fun ρ=>hx ρ,knI_e _ _ _,trivial⟩⟩,⟨rfl,rfl,rfl,rfl,fun i e c' hc=>?_,trivial⟩,trivial⟩
 ·exact(allI_at hl a.toNat _ hat ρ).symm
 ·simp only[Col.get]at hc ⊢
  refine⟨_,rfl,fun ρ=>?_⟩
  rw[List.getElem?_set]at hc
  by_cases he:a.toNat=e
  ·subst he
   rw[if_pos rfl,if_pos ha]at hc
   cases hc
   rw[if_pos rfl]
   exact hx ρ
  ·rw[if_neg he]at hc
   rw[if_neg (fun h=>he h.symm)]
   exact(allI_at hl e _ hc ρ).symm
theorem local_K{f:FuncId}{args:List SV}{l:List SC}{len cap:NV}{lk lc lo ln ct kd a x:Int}{ret ret':SV}{new:SC}{kn:Bool}
  (h:zah P f args (h0S (zbu l) len.v cap.v lk lc lo ln ct) 2 (.leaf (ret,⟨h1S (zbu l) len.v cap.v kd a x ct,2,fun _=>True⟩)))
  (hl:allI .u64 l=true) (hn:l.length=len.v) (ha:a.toNat<l.length) (hx:∀ρ,new.den ρ=(uwn x).den ρ) (hr:SVe ret ret'):
  zah P f args (hK l len cap (i6n lk) (i6n lc) (uwn lo) (uwn ln) (i6n ct)) 2 (.leaf (ret',⟨hK1 l len cap kd a new kn ct,2,fun _=>True⟩)):=
 (pre_localn h (pre_K hl hn)).same fun K hK=>⟨ret',_,hr,same_K hl hn ha hx,hK⟩
theorem contract_or{f:FuncId}{u m:Nat}{c:List SV->Hp->Out (SV×Hp)} (hc:∀args H,(∃n,c args H=.bad n)\/(∃σ n args0 h0 post,c args H=useP σ n args0 h0 post args H/\zah P f args0 h0 n post)\/c args H=ze4 P con0 noAnn u m f args H\/
  ∃b σ n args0 h0 post σ' n' args0' h0' post',c args H=.br b (useP σ n args0 h0 post args H) (useP σ' n' args0' h0' post' args H)/\zah P f args0 h0 n post/\zah P f args0' h0' n' post'):zab P f c:=by
 intro φ ρ H w args vs K h hv hh
 rcases hc args H with⟨n,e⟩|⟨σ,n,args0,h0,post,e,hl⟩|e|⟨b,σ,n,args0,h0,post,σ',n',args0',h0',post',e,hl,hl'⟩
 ·rw[e]at hh;exact hh.elim
 ·rw[e]at hh
  exact use_ok hl h hv (useP_T hh)
 ·rw[e]at hh
  exact zfb (fun _ _ h=>by cases h) m φ ρ H w f args vs K h hv hh
 ·rw[e]at hh
  cases b with
  | true=>exact use_ok hl h hv (useP_T (hh.1 rfl))
  | false=>exact use_ok hl' h hv (useP_T (hh.2 rfl))
structure MK where
 kc:Nat
 len:NV
 cap:NV
 xk:Int
 xc:Int
 xo:Int
 xn:Int
 xt:Int
 kn:Bool
 l:List SC
noncomputable section
def memAt(H:Hp)(km:Nat):Option MK:=match find km H.h with
 | some (.own _ _ [some (.slc kc _ _ _ len cap),some lk,some lc,some lo,some ln,some ct])=>match find kc H.h with
  | some (.row _ _ _ [.ck l])=>match numC lk,numC lc,numC lo,numC ln,numC ct with
   | some xk,some xc,some xo,some xn,some xt=>some ⟨kc,len,cap,xk,xc,xo,xn,xt,kiB ct,l⟩
   | _,_,_,_,_=>none
  | _=>none
 | _=>none
def MK.h(x:MK):HL:=hK x.l x.len x.cap (i6n x.xk) (i6n x.xc) (uwn x.xo) (uwn x.xn) (i6n x.xt)
def MK.ok(x:MK)(a:Int):Bool:=match a with
 | .ofNat n=>Nat.blt n x.l.length&&allI .u64 x.l
 | _=>false
def lenK(x:MK)(k:Out (SV×Hp)):Out (SV×Hp):=match x.len with
 | .k m=>chk (Nat.beq x.l.length m) k 484
 | .s m=>.need (x.l.length=m) k
theorem lenK_h{x:MK}{k:Out (SV×Hp)}{K:SV×Hp->Prop}(h:(lenK x k).holds K):x.l.length=x.len.v/\k.holds K:=by
 unfold lenK at h
 split at h
 ·rename_i m hm
  obtain⟨h1,h2⟩:=zaf h
  rw[hm]
  exact⟨Nat.eq_of_beq_eq_true h1,h2⟩
 ·rename_i m hm
  rw[hm]
  exact h
def MK.post(x:MK)(p:Option Prop)(a:Int)(ret:SV)(kd:Int)(new:SC):Out (SV×Hp):=lenK x (match p with
 | some p=>.need p (.leaf (ret,⟨hK1 x.l x.len x.cap kd a new x.kn x.xt,2,fun _=>True⟩))
 | none=>.leaf (ret,⟨hK1 x.l x.len x.cap kd a new x.kn x.xt,2,fun _=>True⟩))
theorem MK.ok_h{x:MK}{a:Int}(h:x.ok a=true)(hn:x.l.length=x.len.v):0<=a/\a<(x.len.v:Int)/\a.toNat<x.l.length/\allI .u64 x.l=true:=by
 unfold MK.ok at h
 split at h
 ·simp only[Bool.and_eq_true,Nat.blt_eq]at h
  refine⟨Int.natCast_nonneg _,?_,by simpa using h.1,h.2⟩
  rw[<-hn]
  simpa using h.1
 ·cases h
theorem MK.loc{x:MK}{f:FuncId}{args:List SV}{a v kd:Int}{p:Option Prop}{ret ret':SV}{new:SC}(hok:x.ok a=true)
  (h:p.getD True->0<=a->a<(x.len.v:Int)->zah P f args (h0S (zbu x.l) x.len.v x.cap.v x.xk x.xc x.xo x.xn x.xt) 2 (.need True (.leaf (ret,⟨h1S (zbu x.l) x.len.v x.cap.v kd a v x.xt,2,fun _=>True⟩))))
  (hx:allI .u64 x.l=true->a.toNat<x.l.length->∀ρ,new.den ρ=(uwn v).den ρ) (hr:allI .u64 x.l=true->a.toNat<x.l.length->SVe ret ret'):zah P f args x.h 2 (x.post p a ret' kd new):=by
 intro φ ρ w vs K hi hv hh
 obtain⟨hn,hh⟩:=lenK_h hh
 obtain⟨hp,hK⟩:p.getD True/\K (ret',⟨hK1 x.l x.len x.cap kd a new x.kn x.xt,2,fun _=>True⟩):=by
  cases p with
  | none=>exact⟨trivial,hh⟩
  | some p=>exact hh
 obtain⟨g0,g1,g2,g3⟩:=MK.ok_h hok hn
 exact local_K ((h hp g0 g1).mono fun K hK=>⟨trivial,hK⟩) g3 hn g2 (hx g3 g2) (hr g3 g2) φ ρ w vs K hi hv hK
def memP(ws:Nat)(f:FuncId)(k:MK->List Nat->Int->List SC->List SV->Hp->Out (SV×Hp)):List SV->Hp->Out (SV×Hp):=fun args H=>match args with
 | .c (.ptr km _ _ _ _)::.c (.ki .i64 a)::rest=>fN km fun km=>match memAt H km with
  | some x=>match x.ok a with
   | true=>k x [km,x.kc] a (rest.filterMap fun|.c c=>some c|_=>none) args H
   | false=>.bad 481
  | none=>ze4 P con0 noAnn 3 6 f args H
 | _=>ze4 P con0 noAnn 3 6 f args H
def fStn:FuncId:=21
def conSt:List SV->Hp->Out (SV×Hp):=memP 1 fStn fun x σ a r args H=>match r with
 | [c]=>match numC c with
  | some v=>useP σ 2 [ptMn,.c (i6n a),.c (uwn v)] x.h (x.post none a (.t []) 2 (knI (kiB c) .u64 v)) args H
  | none=>.bad 482
 | _=>.bad 483
theorem memP_ok{ws:Nat}{f:FuncId}{k:MK->List Nat->Int->List SC->List SV->Hp->Out (SV×Hp)}
    (hk:∀x σ a r args H,x.ok a=true->(∃n,k x σ a r args H=.bad n)\/(∃σ' n args0 h0 post,k x σ a r args H=useP σ' n args0 h0 post args H/\zah P f args0 h0 n post)\/
      ∃b σ' n args0 h0 post σ'' n' args0' h0' post',k x σ a r args H=.br b (useP σ' n args0 h0 post args H) (useP σ'' n' args0' h0' post' args H)/\zah P f args0 h0 n post/\zah P f args0' h0' n' post'):zab P f (memP ws f k):=contract_or (u:=3) (m:=6) fun args H=>by
  unfold memP
  simp only[fN_eq]
  repeat' split
  all_goals first
    | exact .inr (.inr (.inl rfl))
    | exact .inl ⟨_,rfl⟩
    | (rename_i h;rcases hk _ _ _ _ _ _ h with h|h|h
       . exact .inl h
       . exact .inr (.inl h)
       . exact .inr (.inr (.inr h)))
theorem conSt_ok:zab P fStn conSt:=memP_ok fun x σ a r args H hok=>by
 repeat' split
 all_goals first
  | exact .inl ⟨_,rfl⟩
  | exact .inr (.inl ⟨_,_,_,_,_,rfl,MK.loc hok (fun _ h0 h1=>zai zaj.nil fun _=>vhSt h0 h1) (fun hl hj=>knI_e _ _ _) (fun hl hj ρ=>rfl)⟩)
end
end Go.Proofs.YtabiechfpefjhaaGreat.Vc
namespace Go.Proofs.YtabiechfpefjhaaGreat.Vc
open Go Go.RowKit Sx Cn
theorem oneArg{l:List Int}(h:l.length=1):∃x,l=[x]:=match l,h with|[x],_=>⟨x,rfl⟩
def postLenK:List Int->Out SV|[x]=>.need (0<=x/\x<=18446744073709551615) (.leaf (.c (.ki .i64 (Lib.bitLen x.toNat))))|_=>.bad 400
def postLenS:List Int->Out SV|[x]=>.need (0<=x/\x<=18446744073709551615) (.leaf (.c (.iv .i64 (Lib.bitLen x.toNat))))|_=>.bad 400
theorem pureLenK:PureC P 65 [.u64] postLenK:=by
 intro l hl w K hK
 obtain⟨x,rfl⟩:=oneArg hl
 obtain⟨⟨h0,h1⟩,hK⟩:=hK
 refine(bits_Len64 x w h0 h1).mono ?_
 rintro e w' ⟨rfl,rfl⟩
 exact⟨_,_,rfl,hK,fun ρ=>rfl,rfl,rfl,rfl,Nat.le_refl _,fun _ _ _=>rfl⟩
theorem pureLenS:PureC P 65 [.u64] postLenS:=by
 intro l hl w K hK
 obtain⟨x,rfl⟩:=oneArg hl
 obtain⟨⟨h0,h1⟩,hK⟩:=hK
 refine(bits_Len64 x w h0 h1).mono ?_
 rintro e w' ⟨rfl,rfl⟩
 exact⟨_,_,rfl,hK,fun ρ=>rfl,rfl,rfl,rfl,Nat.le_refl _,fun _ _ _=>rfl⟩
noncomputable def conLen:List SV->Hp->Out (SV×Hp):=fun args H=>match args with
 | [.c (.ki _ _)]=>conP [.u64] postLenK args H
 | _=>conP [.u64] postLenS args H
theorem conLen_ok:zab P 65 conLen:=by
 intro φ ρ H w args vs K h hv hh
 unfold conLen at hh
 split at hh
 ·exact conP_ok pureLenK φ ρ H w _ vs K h hv hh
 ·exact conP_ok pureLenS φ ρ H w _ vs K h hv hh
end Go.Proofs.YtabiechfpefjhaaGreat.Vc
