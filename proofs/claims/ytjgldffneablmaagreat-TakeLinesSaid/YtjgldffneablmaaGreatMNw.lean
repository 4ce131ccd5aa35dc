/- A part of the proof. -/
import Derived.Test.YtjgldffneablmaaGreatML
import Derived.Test.YtjgldffneablmaaGreatMW
set_option linter.unusedVariables false
set_option linter.unusedSimpArgs false
set_option maxRecDepth 100000
open Nat renaming le_refl -> zq
open Go.Proofs.YtjgldffneablmaaGreat.Sx.V renaming need -> U
namespace Go.Proofs.YtjgldffneablmaaGreat.Vc
open Go Go.RowKit Sx Cn Dc Ck
structure Mk where
 w:Bool
 l:Bool
 c:Bool
 t:Bool
 d:Bool
 h:Bool
 b:Bool
 a:Bool
 p:Bool
def kiB:SC->Bool
 | .ki _ _=>true
 | _=>false
noncomputable section
def cfK(m:Mk)(k0 k1:Nat)(c d:Cf):List SC:=[knI m.w .i64 c.W,knI m.l .i64 c.L,knI m.c .i64 c.C,knI m.t .i64 c.T,knI m.d .i64 c.D,knI m.h .i64 c.H,knI m.b .i64 c.B,knI m.a .i64 c.A,knI m.p .i64 c.P,slK k0 1 d.nP d.rc,slK k1 3 d.nU d.cu]
def layK(m:Mk)(c:Cf):List SC:=[knI m.w .i64 c.W,knI m.l .i64 c.L,knI m.c .i64 c.C,knI m.t .i64 c.T,knI m.d .i64 c.D,knI m.h .i64 c.H,knI m.h .i64 (lS c),knI (m.h&&m.c) .i64 (lE c),knI (m.h&&(m.c&&m.w)) .i64 (lB c),knI (m.h&&(m.c&&m.w)) .i64 (lQ c),knI (m.h&&(m.c&&(m.w&&(m.l&&m.d)))) .i64 (lT c)]
def slN(b b':Bool)(k sz n cap:Nat):SC:=.slc k (.k 0) (.k 0) sz (knN b n) (knN b' cap)
def envK(k0 k1 km kc kr:Nat)(m:Mk)(c d:Cf)(rn rc:Nat):Blk:=.own 66 26 ((cfK m k0 k1 c d++layK m c++[.ptr km (.k 0) (.k 0) 0 6,.ptr kc (.k 0) (.k 0) 0 2,slN m.t false kr 7 rn rc,.nils]).map some)
def memK(k:Nat)(b:Bool)(n:Nat):Blk:=.own 118 6 ([slN b b k 1 n n,.ki .i64 0,.ki .i64 0,.ki .u64 0,.ki .u64 0,.ki .i64 0].map some)
def repK(b:Bool)(n:Nat)(x:SC):Col:=match b with|true=>.ck (List.replicate n x)|false=>.cc x
theorem zhi{b:Bool}{n:Nat}{x:SC}{col:Col}(h:ColE col (.cc x)):ColE col (repK b n x):=by
 cases b with
 | false=>exact h
 | true=>
  intro i e c' hc
  simp only[repK,Col.get,List.getElem?_replicate]at hc
  split at hc
  ·exact h i e c' hc
  ·cases hc
def zeroK(b:Bool)(n:Nat):Blk:=.row 46 n n [repK b n (.ki .u64 0)]
def clkK:Blk:=.own 125 2 [some (.ki .i64 0),some (.ki .i64 0)]
def freshK(b:Bool)(n c:Nat):Blk:=.row 111 c n [repK b n (.ki .i64 0),repK b n (.ki .i64 (-1)),repK b n (.ki .i64 0),repK b n (.ki .i64 0),repK b n (.ki .i64 (-1)),repK b n .nils,repK b n (.kb false)]
def Mk.n(m:Mk):Bool:=m.h&&(m.c&&(m.w&&(m.l&&(m.d&&m.t))))
def hNewK(m:Mk)(c d:Cf)(n rn rc:Nat):HL:=[(3,envK 8 9 4 6 7 m c d rn rc),(4,memK 5 m.n n),(5,zeroK m.n n),(6,clkK),(7,freshK m.t rn rc)]++hOwn 8 d
def outNewK(m:Mk)(c:Cf)(n t:Nat):Out (SV×Hp):=.need (errE c=0) (.any (Cf×Nat) (fun x=>IsCl c x.1/\c.T.toNat<=x.2) fun x=>.leaf (.t [.c (.ptr 3 (.k 0) (.k 0) 0 26),.c (.ki .i64 0)],⟨hNewK m c x.1 n t x.2,11,fun _=>True⟩))
theorem newK_same(m:Mk)(c:Cf)(K:SV×Hp->Prop)(h:(outNewK m c (ncN c) c.T.toNat).holds K):(Out.need True (psNewM c).out).holds (fun r=>∃sv h',SVe r.1 sv/\HLE r.2.h h'/\K (sv,⟨h',r.2.nxt,r.2.D⟩)):=by
 obtain⟨h0,hx,hK⟩:=h
 refine⟨trivial,fun _=>⟨hx,fun x hφ=>⟨_,_,?_,?_,hK x hφ⟩⟩,fun h=>absurd h0 (of_decide_eq_false h)⟩
 ·exact fun _=>rfl
 ·obtain⟨d,rx⟩:=x
  obtain⟨⟨FC,rc',cu',_,hd⟩,_⟩:=hφ
  simp only at hd
  subst hd
  refine⟨⟨rfl,rfl,rfl,fa_own ?_⟩,⟨rfl,rfl,rfl,fa_own ?_⟩,⟨rfl,rfl,rfl,rfl,?_⟩,⟨rfl,rfl,rfl,?_⟩,⟨rfl,rfl,rfl,rfl,?_⟩,HLE.refl _⟩
  ·repeat' first
    | exact knI_e _ _ _
    | exact slc_e _ _ _ _ _ _ _ _
    | exact fun _=>rfl
    | exact(show True from trivial)
    | (show SCe _ _/\Fa SCe _ _;constructor)
  ·repeat' first
    | exact slc_e _ _ _ _ _ _ _ _
    | exact fun _=>rfl
    | exact(show True from trivial)
    | (show SCe _ _/\Fa SCe _ _;constructor)
  ·exact⟨zhi cc_i,trivial⟩
  ·exact⟨fun _=>rfl,fun _=>rfl,trivial⟩
  ·exact⟨zhi cc_i,zhi cc_i,zhi cc_i,zhi cc_i,zhi cc_i,zhi (ColE.refl _),zhi cc_b,trivial⟩
def knN'{β:Type 1}(b:Bool)(n:Nat)(k:Nat->β):β:=match b with|true=>fN n k|false=>k n
theorem knN_eq{β:Type 1}(b:Bool)(n:Nat)(k:Nat->β):knN' b n k=k n:=by cases b<;>simp[knN']
def conNewK:List SV->Hp->Out (SV×Hp):=fun args H=>match args with
  | [.a [x0,x1,x2,x3,x4,x5,x6,x7,x8,.slc kr _ _ _ nP rc,.slc ku _ _ _ nU cu]]=>match numC x0,numC x1,numC x2,numC x3,numC x4,numC x5,numC x6,numC x7,numC x8 with
    | some W,some L,some C,some T,some D,some h,some B,some A,some Q=>fN kr fun kr=>fN ku fun ku=>cfBlk H.h kr ku fun kF ln cp o a b f g k=>
        knN' ((⟨kiB x0,kiB x1,kiB x2,kiB x3,kiB x4,kiB x5,kiB x6,kiB x7,kiB x8⟩:Mk).n) (ncN ⟨W,L,C,T,D,h,B,A,Q,nP.v,rc.v,nU.v,cu.v,fun e=>ln 0 e,fun e=>cp 0 e,o,a,b,fun e=>f 0 e,fun e=>g 0 e,fun e=>k 0 e⟩) fun n=>knN' (kiB x3) (Int.toNat T) fun t=>useP [kr,ku,kF] 3 [argC ⟨W,L,C,T,D,h,B,A,Q,nP.v,rc.v,nU.v,cu.v,fun e=>ln 0 e,fun e=>cp 0 e,o,a,b,fun e=>f 0 e,fun e=>g 0 e,fun e=>k 0 e⟩] (hC ⟨W,L,C,T,D,h,B,A,Q,nP.v,rc.v,nU.v,cu.v,fun e=>ln 0 e,fun e=>cp 0 e,o,a,b,fun e=>f 0 e,fun e=>g 0 e,fun e=>k 0 e⟩)
                (outNewK ⟨kiB x0,kiB x1,kiB x2,kiB x3,kiB x4,kiB x5,kiB x6,kiB x7,kiB x8⟩ ⟨W,L,C,T,D,h,B,A,Q,nP.v,rc.v,nU.v,cu.v,fun e=>ln 0 e,fun e=>cp 0 e,o,a,b,fun e=>f 0 e,fun e=>g 0 e,fun e=>k 0 e⟩ n t) args H
    | _,_,_,_,_,_,_,_,_=>.bad 434
  | _=>.bad 435
theorem conNewK_ok:zab P 17 conNewK:=zad fun args H=>by
 unfold conNewK
 simp only[fN_eq,knN_eq]
 repeat' split
 all_goals first|exact .inl ⟨_,rfl⟩|exact(zhv _ _ _ _).elim .inl fun ⟨_,_,_,_,_,_,_,_,_,e⟩=>.inr ⟨_,_,_,_,_,e,(zbu conNM_ok (vhNewM _)).same (newK_same _ _)⟩
end
section
variable {g:Nat->Int} {len:Nat}
theorem rd_far(h:len<=9){p:Nat}(hp:9<=p)(k:Int):rd g len p k=0:=by unfold rd;rw[if_neg (by omega)]
theorem cnt_far(h:len<=9){p:Nat}(hp:9<=p):cnt g len p=0:=by unfold cnt;rw[rd_far h hp];rfl
theorem pS_far(h:len<=9):∀i,9<=pS g len i
 | 0=>by show 9<=10;omega
 | i+1=>by
  have ih:=pS_far h i
  show 9<=pI g len (pS g len i) (cnt g len (pS g len i))
  rw[cnt_far h ih]
  show 9<=pS g len i+1
  omega
theorem lenP_far(h:len<=9)(e:Nat):lenP g len e=0:=cnt_far h (pS_far h e)
theorem nP_far(h:len<=9):nP g len=1:=by unfold nP dN;rw[rd_far h (zq _)];rfl
theorem nU_far(h:len<=9):nU g len=0:=cnt_far h (pS_far h _)
end
def c9(g:Nat->Int)(len:Nat)(FC:Nat->Nat)(rc cu:Nat):Cf:=⟨dW g len,dL g len,dC g len,dT g len,dD g len,dH g len,dB g len,dA g len,dP g len,1,rc,0,cu,fun _=>0,fun e=>FC e,fun i e=>cO g len i e,fun i e=>cA g len i e,fun i e=>cB g len i e,fun e=>uP g len e,fun e=>uL g len e,fun e=>uD g len e⟩
theorem dec9{g:Nat->Int}{len:Nat}(h:len<=9)(FC:Nat->Nat)(rc cu:Nat):decOf g len FC rc cu=c9 g len FC rc cu:=by
 unfold decOf c9
 rw[nP_far h,nU_far h]
 simp only[lenP_far h]
theorem isDec9{g:Nat->Int}{len:Nat}(h:len<=9){d:Cf}(hd:zcy g len d):∃FC rc cu,1<=rc/\d=c9 g len FC rc cu:=by
 obtain⟨FC,rc,cu,hb,rfl⟩:=hd
 exact⟨FC,rc,cu,by have:=hb.2.1;rwa [nP_far h]at this,dec9 h FC rc cu⟩
theorem err9{c:Cf}(hn:okN c)(hP:c.nP=1)(hl:c.lenP 0=0)(hU:c.nU=0):errE c=0:=(zhu c).2 ⟨hn,⟨by omega,fun i hi=>by
 have:i=0:=by omega
 subst this
 exact⟨by omega,fun e he=>by omega⟩⟩,by omega,fun e he=>by omega⟩
noncomputable section
def g0:Nat->Int:=fun _=>0
def rdC1(s:SV)(H:Hp):Option Cf:=(rdCf s H.h).map (·.1)
def LC1(s:SV)(H:Hp):List Nat:=match rdCf s H.h with|some x=>x.2|none=>[]
def conDe:Con:=Con.add 26 conDec con0
theorem conDe_ok:zak P conDe:=.add conDec_ok zak.nil
def verCfg0:V:=verF P conDe 3 3 7 [(0,.nilTmp 0 5 1 [.ci .u8 fun _ _=>0])] .nil [.c .nils] ⟨[],0,fun _=>True⟩ (finV 0 3 rdC1 LC1 (zcy (fun _=>0) 0) (argCm 0) (hOwn 0))
def verCfg(g:Nat->Int)(len cap:Nat):V:=verF P conDe 3 3 7 [] .nil [.c (slK 0 1 len cap)] ⟨[(0,ints .u8 len g)],1,fun _=>True⟩ (finV 1 4 rdC1 LC1 (zcy g len) (argCm 1) (hOwn 1))
def outCfg(n:Nat)(g:Nat->Int)(len:Nat):Out (SV×Hp):=.need (U8 len g) (.any Cf (zcy g len) fun d=>.leaf (argCm n d,⟨hOwn n d,n+3,fun _=>True⟩))
def outCfgK(n:Nat)(g:Nat->Int)(len:Nat):Out (SV×Hp):=.need (U8 len g/\len<=9) (.any (Nat×Nat×(Nat->Nat)) (fun x=>1<=x.1) fun x=>.leaf (.a [.ki .i64 (dW g len),.ki .i64 (dL g len),.ki .i64 (dC g len),.ki .i64 (dT g len),.ki .i64 (dD g len),.ki .i64 (dH g len),.ki .i64 (dB g len),.ki .i64 (dA g len),.ki .i64 (dP g len),slN true false n 1 1 x.1,slN true false (n+1) 3 0 x.2.1],
 ⟨hOwn n (c9 g len x.2.2 x.1 x.2.1),n+3,fun _=>True⟩))
theorem cfg_same(n:Nat)(g:Nat->Int)(len:Nat)(K:SV×Hp->Prop)(h:(outCfgK n g len).holds K):(outCfg n g len).holds (fun r=>∃sv h',SVe r.1 sv/\HLE r.2.h h'/\K (sv,⟨h',r.2.nxt,r.2.D⟩)):=by
 obtain⟨⟨hu,h9⟩,_,hK⟩:=h
 refine⟨hu,⟨_,fun e=>lenP g len e,nP g len,nU g len,⟨fun _ _=>zq _,zq _,zq _⟩,rfl⟩,fun d hd=>?_⟩
 obtain⟨FC,rc,cu,hr,rfl⟩:=isDec9 h9 hd
 refine⟨_,_,?_,HLE.refl _,hK (rc,cu,FC) hr⟩
 refine sve_a ?_
 repeat' first
  | exact slc_e _ _ _ _ _ _ _ _
  | exact fun _=>rfl
  | exact(show True from trivial)
  | (show SCe _ _/\Fa SCe _ _;constructor)
def bytesL(l:List SC):Option (Nat->Int):=match l.all kiB with
 | true=>some fun e=>match l[e]? with|some (.ki _ n)=>n|_=>0
 | false=>none
end
abbrev zmnw0(a0:Cf)(k:V):V:=U (∀(i:Nat),gd a0.nP a0.FC i=gd a0.nP a0.FC i\/gd a0.nP a0.FC i=0) (U (∀(i:Nat),gd a0.nP a0.lenP i<=gd a0.nP a0.FC i/\gd a0.nP a0.lenP i<=gd a0.nP a0.lenP i) k)
abbrev zmnw1(a0:Cf)(k:V):V:=U (∀(e:Nat),e<a0.nP->a0.lenP e=a0.lenP e) (U (∀(e:Nat),e<a0.nP->a0.FC e=a0.FC e) k)
abbrev zmnw2(a0:Cf)(k:V):V:=U (∀(e:Nat),e<a0.nU->a0.uP e=a0.uP e) (U (∀(e:Nat),e<a0.nU->a0.uL e=a0.uL e) k)
abbrev zmnw3(a0:Cf)(k:V):V:=U (∀(i e:Nat),e<gd a0.nP a0.lenP i->a0.iO i e=a0.iO i e) (U (∀(i e:Nat),e<gd a0.nP a0.lenP i->a0.iA i e=a0.iA i e) (U (∀(i e:Nat),e<gd a0.nP a0.lenP i->a0.iB i e=a0.iB i e) k))
abbrev zmnws0(y0:Cf):V:=U (y0.W=y0.W) (U (y0.L=y0.L) (U (y0.C=y0.C) (U (y0.T=y0.T) (U (y0.D=y0.D) (U (y0.H=y0.H) (U (y0.B=y0.B) (U (y0.A=y0.A) (U (y0.P=y0.P) (U (y0.nP=y0.nP) (U (y0.rc=y0.rc) (U (y0.nU=y0.nU) (U (y0.cu=y0.cu) (U (y0.rc=y0.rc) (U (y0.nP<=y0.nP) (U (∀(e:Nat),e<y0.nP->e=e) (zmnw1 y0 (U (y0.cu=y0.cu) (U (y0.nU<=y0.nU) (zmnw2 y0 (U (∀(e:Nat),e<y0.nU->y0.uD e=y0.uD e) (zmnw0 y0 (zmnw3 y0 V.ok))))))))))))))))))))))
theorem verCfg0_eq :verCfg0=
 U (0=0) (U (0=0) (U (1<=1) (U (0<=0/\0<=0) (U (∀(i e:Nat),i=0/\e<0->Int.ofNat 0=Int.ofNat 0) (U (U8 0 fun (e:Nat)=>Int.ofNat 0) (U (∃(x:Cf),zcy (fun (e:Nat)=>Int.ofNat 0) 0 x) (V.any Cf (zcy (fun (e:Nat)=>Int.ofNat 0) 0) fun y0=>U (zcy (fun (x:Nat)=>Int.ofNat 0) 0 y0) (zmnws0 y0)))))))):=by kernel_rfl
theorem verCfg_eq(g:Nat->Int)(len cap:Nat):verCfg g len cap=
 U (len=len) (U (cap=cap) (U (1<=1) (U (∀(i:Nat),i<1->len<=len) (U (∀(i e:Nat),i<1/\e<len->g e=g e) (U (U8 len fun (e:Nat)=>g e) (U (∃(x:Cf),zcy g len x) (V.any Cf (zcy g len) fun y0=>U (zcy g len y0) (zmnws0 y0)))))))):=by kernel_rfl
theorem is_dec{g:Nat->Int}{len:Nat}:zcy g len (decOf g len (fun e=>lenP g len e) (nP g len) (nU g len)):=⟨_,_,_,⟨fun _ _=>zq _,zq _,zq _⟩,rfl⟩
theorem vhCfg0(h:U8 0 fun _=>0):zac verCfg0:=by
 constructor
 rw[verCfg0_eq]
 simp only[V.holds,cf_eta,Int.ofNat_eq_natCast,decide_eq_true_eq,decide_eq_false_iff_not,true_and,and_true,eq_self,forall_const,true_implies,implies_true,zq,Nat.lt_irrefl,and_self]
 repeat' first
  | exact True.intro
  | exact h
  | with_reducible apply And.intro
  | (intro(d:Cf) (hd:zcy _ _ d);have hd':=hd;obtain⟨FC,rc,cu,hb,rfl⟩:=hd')
  | intro _
 all_goals first
  | exact h
  | assumption
  | exact⟨_,is_dec⟩
  | exact gd_le (fun j hj=>hb.1 j hj) _
  | exact zq _
  | exact hb.2.1
  | exact hb.2.2
  | exact .inl rfl
  | exact .inl trivial
  | rfl
theorem vhCfg{g:Nat->Int}{len cap:Nat}(h:U8 len g):zac (verCfg g len cap):=by
 constructor
 rw[verCfg_eq]
 simp only[V.holds,cf_eta,Int.ofNat_eq_natCast,decide_eq_true_eq,decide_eq_false_iff_not,true_and,and_true,eq_self,forall_const,true_implies,implies_true,zq,Nat.lt_irrefl,and_self]
 repeat' first
  | exact True.intro
  | exact h
  | with_reducible apply And.intro
  | (intro(d:Cf) (hd:zcy _ _ d);have hd':=hd;obtain⟨FC,rc,cu,hb,rfl⟩:=hd')
  | intro _
 all_goals first
  | exact h
  | assumption
  | exact⟨_,is_dec⟩
  | exact gd_le (fun j hj=>hb.1 j hj) _
  | exact zq _
  | exact hb.2.1
  | exact hb.2.2
  | exact .inl rfl
  | exact .inl trivial
  | rfl
noncomputable section
def conCfg:List SV->Hp->Out (SV×Hp):=fun args H=>match args with
 | [.c .nils]=>useP [] 0 [.c .nils] [] (outCfgK 0 (fun _=>0) 0) args H
 | [.c (.slc kb _ _ _ len cap)]=>fN kb fun kb=>match find kb H.h with
  | some (.row _ _ _ [.ck l])=>(match bytesL l with
   | some g=>useP [kb] 1 [.c (slK 0 1 len.v cap.v)] [(0,ints .u8 len.v g)] (outCfgK 1 g len.v) args H
   | none=>.bad 460)
  | _=>(match rowFn H.h kb 0 with
   | some g=>useP [kb] 1 [.c (slK 0 1 len.v cap.v)] [(0,ints .u8 len.v g)] (outCfg 1 g len.v) args H
   | none=>.bad 461)
 | _=>.bad 462
theorem conCfg_ok:zab P 7 conCfg:=zad fun args H=>by
 unfold conCfg
 simp only[fN_eq]
 repeat' split
 all_goals first
  | exact .inl ⟨_,rfl⟩
  | exact .inr ⟨_,_,_,_,_,rfl,(zae conDe_ok vhCfg0).same (cfg_same 0 _ _)⟩
  | exact .inr ⟨_,_,_,_,_,rfl,(zae conDe_ok vhCfg).same (cfg_same 1 _ _)⟩
  | exact .inr ⟨_,_,_,_,_,rfl,zae conDe_ok vhCfg⟩
def conW:Con:=Con.add 7 conCfg (Con.add 17 conNewK con0)
theorem conW_ok:zak P conW:=.add conCfg_ok (.add conNewK_ok zak.nil)
end
noncomputable section
def psYes:PS:=.one 0 (fun _ _=>[]) (.c (.kb true)) []
def conYes:List SV->Hp->Out (SV×Hp):=fun args H=>match args with
 | []=>useP [] 0 [] [] (.need True psYes.out) args H
 | _=>.bad 422
theorem conYes_ok{f:FuncId}(h:zai P f [] [] 0 (.need True psYes.out)):zab P f conYes:=zad fun args H=>by
 unfold conYes
 split
 ·exact .inr ⟨_,_,_,_,_,rfl,h⟩
 ·exact .inl ⟨_,rfl⟩
end
theorem u8_0:U8 0 fun _=>Int.ofNat 0:=fun e h=>absurd h (Nat.not_lt_zero e)
end Go.Proofs.YtjgldffneablmaaGreat.Vc
