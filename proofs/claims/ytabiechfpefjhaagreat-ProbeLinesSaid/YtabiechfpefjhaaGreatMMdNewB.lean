/- A part of the proof. -/
import Derived.Test.YtabiechfpefjhaaGreatMMdNewN
set_option linter.unusedVariables false
set_option linter.unusedSimpArgs false
set_option maxRecDepth 100000
namespace Go.Proofs.YtabiechfpefjhaaGreat.Md
open Go Go.RowKit Sx Cn Dc Ck Vc
theorem cu_e{col:Col}:ColE col .cu:=fun i e c' h=>by cases h
noncomputable section
def freshR(n c:Nat):Blk:=.row 109 c n [.cu,.cu,.cu,.cu,.cu,.cu,.cb fun _ _=>false]
def hNewCB(m:Mk)(c d:Cf)(n rn rc:Nat):HL:=[(3,Vc.envK 8 9 4 6 7 m c d rn rc),(4,memK 5 m.n n),(5,zeroK false n),(6,clkK),(7,freshR rn rc)]++hOwn 8 d
def outNewCB(m:Mk)(c:Cf)(n t:Nat):Out (SV×Hp):=.need (errE c=0) (.any (Cf×Nat) (fun x=>IsCl c x.1/\c.T.toNat<=x.2) fun x=>.leaf (.t [.c (.ptr 3 (.k 0) (.k 0) 0 26),.c (.ki .i64 0)],⟨hNewCB m c x.1 n t x.2,11,fun _=>True⟩))
theorem newCB_same(m:Mk)(c:Cf)(K:SV×Hp->Prop)(h:(outNewCB m c (ncN c) c.T.toNat).holds K):(Out.need True (psNewM c).out).holds (fun r=>∃sv h',SVe r.1 sv/\HLE r.2.h h'/\K (sv,⟨h',r.2.nxt,r.2.D⟩)):=by
 obtain⟨h0,hx,hK⟩:=h
 refine⟨trivial,fun _=>⟨hx,fun x hφ=>⟨_,_,?_,?_,hK x hφ⟩⟩,fun h=>absurd h0 (of_decide_eq_false h)⟩
 ·exact fun _=>rfl
 ·obtain⟨d,rx⟩:=x
  obtain⟨⟨FC,rc',cu',_,hd⟩,_⟩:=hφ
  simp only at hd
  subst hd
  refine⟨⟨rfl,rfl,rfl,fa_own ?_⟩,⟨rfl,rfl,rfl,fa_own ?_⟩,⟨rfl,rfl,rfl,rfl,?_⟩,⟨rfl,rfl,rfl,?_⟩,⟨rfl,rfl,rfl,rfl,?_⟩,HLE.refl _⟩
  ·repeat' first
    | exact knI_e _ _ _
    | exact slc_e _ _ _ _ _ _ _ _
    | exact fun _=>rfl
    | exact(show True from trivial)
    | (show SCe _ _/\Fa SCe _ _;constructor)
  ·repeat' first
    | exact slc_e _ _ _ _ _ _ _ _
    | exact fun _=>rfl
    | exact(show True from trivial)
    | (show SCe _ _/\Fa SCe _ _;constructor)
  ·exact⟨cc_i,trivial⟩
  ·exact⟨fun _=>rfl,fun _=>rfl,trivial⟩
  ·exact⟨cu_e,cu_e,cu_e,cu_e,cu_e,cu_e,ColE.refl _,trivial⟩
def hNewNB(m:Mk)(c d:Cf)(tb:Int)(n rn rc:Nat):HL:=[(3,envN 8 9 4 6 7 m c d tb rn rc),(4,memK 5 m.n n),(5,zeroK false n),(6,clkK),(7,freshR rn rc)]++hOwn 8 d
def outNewNB(m:Mk)(c:Cf)(n t:Nat):Out (SV×Hp):=.need (errE c=0) (.any (Cf×Nat) (fun x=>IsCl c x.1/\c.T.toNat<=x.2) fun x=>.any (Nat×Int) (fun q=>q=(ncN c,lT c)) fun q=>selO (m.h&&(m.c&&(m.w&&(m.l&&m.d)))) (lT c) q.2 fun tb=>selO m.n n q.1 fun nn=>.leaf (.t [.c (.ptr 3 (.k 0) (.k 0) 0 26),.c (.ki .i64 0)],⟨hNewNB m c x.1 tb nn t x.2,11,fun _=>True⟩))
theorem newNB_same(m:Mk)(c:Cf)(K:SV×Hp->Prop)(h:(outNewNB m c (ncN c) c.T.toNat).holds K):(outNewCB m c (ncN c) c.T.toNat).holds K:=by
 obtain⟨h0,hx,hK⟩:=h
 refine⟨h0,hx,fun x hφ=>?_⟩
 have:=(hK x hφ).2 (ncN c,lT c) rfl
 have e1:∀ {α:Type} (b:Bool) (x:α) (k:α->Out (SV×Hp)),selO b x x k=k x:=fun b x k=>by cases b<;>rfl
 simp only[e1]at this
 exact this
def conNewNB:List SV->Hp->Out (SV×Hp):=fun args H=>match args with
  | [.a [x0,x1,x2,x3,x4,x5,x6,x7,x8,.slc kr _ _ _ nP rc,.slc ku _ _ _ nU cu]]=>match numC x0,numC x1,numC x2,numC x3,numC x4,numC x5,numC x6,numC x7,numC x8 with
    | some W,some L,some C,some T,some D,some h,some B,some A,some Q=>fN kr fun kr=>fN ku fun ku=>cfBlk H.h kr ku fun kF ln cp o a b f g k=>
        knN' ((⟨kiB x0,kiB x1,kiB x2,kiB x3,kiB x4,kiB x5,kiB x6,kiB x7,kiB x8⟩:Mk).n) (ncN ⟨W,L,C,T,D,h,B,A,Q,nP.v,rc.v,nU.v,cu.v,fun e=>ln 0 e,fun e=>cp 0 e,o,a,b,fun e=>f 0 e,fun e=>g 0 e,fun e=>k 0 e⟩) fun n=>knN' (kiB x3) (Int.toNat T) fun t=>useP [kr,ku,kF] 3 [argC ⟨W,L,C,T,D,h,B,A,Q,nP.v,rc.v,nU.v,cu.v,fun e=>ln 0 e,fun e=>cp 0 e,o,a,b,fun e=>f 0 e,fun e=>g 0 e,fun e=>k 0 e⟩] (hC ⟨W,L,C,T,D,h,B,A,Q,nP.v,rc.v,nU.v,cu.v,fun e=>ln 0 e,fun e=>cp 0 e,o,a,b,fun e=>f 0 e,fun e=>g 0 e,fun e=>k 0 e⟩)
                (outNewNB ⟨kiB x0,kiB x1,kiB x2,kiB x3,kiB x4,kiB x5,kiB x6,kiB x7,kiB x8⟩ ⟨W,L,C,T,D,h,B,A,Q,nP.v,rc.v,nU.v,cu.v,fun e=>ln 0 e,fun e=>cp 0 e,o,a,b,fun e=>f 0 e,fun e=>g 0 e,fun e=>k 0 e⟩ n t) args H
    | _,_,_,_,_,_,_,_,_=>.bad 434
  | _=>.bad 435
theorem conNewNB_ok:zab P 18 conNewNB:=zac fun args H=>by
 unfold conNewNB
 simp only[fN_eq,knN_eq]
 repeat' split
 all_goals first|exact .inl ⟨_,rfl⟩|exact(cfBlk_ok _ _ _ _).elim .inl fun ⟨_,_,_,_,_,_,_,_,_,e⟩=>.inr ⟨_,_,_,_,_,e,((zcb conNM_ok (vhNewM _)).same (newCB_same _ _)).mono (newNB_same _ _)⟩
end
end Go.Proofs.YtabiechfpefjhaaGreat.Md
