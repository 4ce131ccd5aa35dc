/- A part of the proof. -/
import Derived.Test.YtabiechfpefjhaaGreatMEnI
import Derived.Test.YtabiechfpefjhaaGreatMV
import Derived.Test.YtabiechfpefjhaaGreatMEg
import Derived.Test.YtabiechfpefjhaaGreatMMdAl
import Derived.Test.YtabiechfpefjhaaGreatMMdAl
import Derived.Test.YtabiechfpefjhaaGreatMW
import Derived.Test.YtabiechfpefjhaaGreatMNw
import Derived.Test.YtabiechfpefjhaaGreatMMd
set_option linter.unusedVariables false
set_option linter.unusedSimpArgs false
set_option maxRecDepth 100000
open Go.IntKind (i64 u64)
open Int renaming ofNat -> O, ofNat_eq_natCast -> zz
open Nat renaming le_refl -> Z
open Go.Proofs.YtabiechfpefjhaaGreat.Sx.V renaming need -> U
namespace Go.Proofs.YtabiechfpefjhaaGreat.En
open Go Go.RowKit Sx Cn Dc Ck Vc Md
noncomputable section
def laMt{X:Type}(gm:X->Mm)(gw gs:X->Int)(pa:List ((St->Nat)×Bool))(bs:X->List Blk)(rd:Int->Mm->Int->St->Option X)(I:X->Prop)(s:St):Option (LA X):=match pmBs 0 s,rmBs 1 s,find (ekK 0 s) s.H.h,tmV 2 s with
 | some p,some r,some (.own tk sk (_::ck)),some x2=>some ⟨[(envM 0,true),(envC 0,true),(tmK 1,true),(renC 1,true),(ekK 0,true)]++pa,
   fun x=>p (gm x)++((match r (gm x) with
    | [.own te se cs,b]=>[.own te se (cs.set 17 (some (i6 (gw x)))),b]
    | l=>l)++.own tk sk (some (i6 (gw x))::ck)::bs x),[13,2],fun x=>[iv (gs x),x2],
   fun s=>match tmI 13 s,rdMm s.H.h (envM 0 s),ceI (ekK 0 s) 0 s.H.h with|some q,some y,some w=>rd q y.m w s|_,_,_=>none,I,fun x=>(200-gs x).toNat⟩
 | _,_,_,_=>none
def laCt{X:Type}(la:St->Option (LA X))(J:Int->X->Prop)(s:St):Option (LA X):=match tmI 13 s,la s with
 | some q,some ⟨pa,bl,_,tv,rd,_,mu⟩=>some ⟨pa,bl,[2],fun x=>(match tv x with|[_,b]=>[b]|l=>l),rd,J q,mu⟩
 | _,_=>none
def frABD(k:Nat)(h:HL):Option (Int×Int×Int×Int×Nat):=match find k h with
 | some (.row _ c _ (.ck [.ki _ n]::_::_::_::_::_::.ck [a]::.ck [b]::.ck [d]::_))=>match numC a,numC b,numC d with
  | some x,some y,some z=>some (n,x,y,z,c)
  | _,_,_=>none
 | _=>none
def argMq(x:SC)(M ln lc:Nat):List SV:=[.c (.ptr 0 (.k 0) (.k 0) 0 26),.c (.ptr 7 (.k 0) (.k 0) 0 21),.c x,.c (.ptr 15 (.k 0) (.k 0) 0 4),.c (slK 17 1 ln lc),.c (.ki .i64 (O M))]
def cMq(kd M:Nat)(X:SC)(h:Cf->Ev->Int->Int->Int->Nat->Nat->(Nat->Int)->HL)(ok:Cf->Ev->Prop):List SV->Hp->Out (SV×Hp):=fun args H=>match args with
 | [.c (.ptr ke _ _ _ _),.c (.ptr kr _ _ _ _),.c (.ifc t kx _ _ _ _),.c (.ptr ky _ _ _ _),.c (.slc kn _ _ _ ln lc),_]=>fN ke fun ke=>fN kr fun kr=>fN kx fun kx=>fN ky fun ky=>fN kn fun kn=>fN (scK (zax ky 0 H.h)) fun kf=>match rdMt ke kr H.h,frABD kf H.h,rowW kn H.h with
  | some (c,v,σ,τ),some (n,a,b,d,cf),some g=>match Nat.beq n.toNat kd with
   | true=>useP (σ++τ++[kx,ky,kf,kn]) 18 (argMq X M ln.v lc.v) (h c v a b d cf ln.v g) (yesO 18 (ok c v)) args H
   | false=>.bad 480
  | _,_,_=>.bad 482
 | _=>.bad 483
theorem cMq_ok{kd M:Nat}{X:SC}{h:Cf->Ev->Int->Int->Int->Nat->Nat->(Nat->Int)->HL}{ok:Cf->Ev->Prop}(hl:∀c v a b d cf ln lc g,zah P fMt (argMq X M ln lc) (h c v a b d cf ln g) 18 (yesO 18 (ok c v))):zab P fMt (cMq kd M X h ok):=zac fun args H=>by
 unfold cMq
 simp only[fN_eq]
 repeat' split
 all_goals first
  | exact .inl ⟨_,rfl⟩
  | with_reducible exact .inr ⟨_,_,_,_,_,rfl,hl _ _ _ _ _ _ _ _ _⟩
end
def okMq(c:Cf)(v:Ev):Prop:=okY c/\v.x.n=c.T.toNat/\4<=v.n/\v.n<=1000000/\okRk v.x/\v.n<=v.a.c/\v.n<=v.b.c/\okMw 2000000 v.m
def rM(b s:Int)(m:Mm):Prop:=(0<=s/\s<1000)/\okMw (2000000+2*s+b) m
def rI(s:Int)(m:Mm):Prop:=0<=s/\okMw (2000000+2*s) m
section
variable {s:Int} {m x:Mm} {n:Nat} {k a y:Int}
theorem q_lt{M:Nat}(h:decide (s<O M)=true):s<M:=of_decide_eq_true h
theorem q_j{M:Nat}(hm:rI s m)(hs:decide (s<O M)=true)(hM:M<=1000)(h:x=m.acc n k a y)(hy:wW y):rM 1 s x:=by
 have:=q_lt hs
 subst h
 exact⟨⟨hm.1,by omega⟩,zgr hm.2 (by omega) hy⟩
theorem q_j0{M:Nat}(hm:rI s m)(hs:decide (s<O M)=true)(hM:M<=1000):rM 1 s m:=by
 have:=q_lt hs
 exact⟨⟨hm.1,by omega⟩,hm.2.le (by omega)⟩
theorem q_ct{M:Nat}(hm:rI s m)(hs:decide (s<O M)=true)(hM:M<=1000)(hb:decide (x.ct>i64.wrap (m.ct+O 1))=true)(h:x=m.acc n k a y):False:=by
 have:=q_lt hs
 exact ct_no hm.2 (by omega) hb h
theorem q_ct0{M:Nat}(hm:rI s m)(hs:decide (s<O M)=true)(hM:M<=1000)(hb:decide (m.ct>i64.wrap (m.ct+O 1))=true):False:=by
 have h1:=q_lt hs
 have h2:=hm.2.2
 have h3:i64.wrap (m.ct+1)=m.ct+1:=w64 (by omega)
 have hb:m.ct>i64.wrap (m.ct+1):=of_decide_eq_true hb
 omega
theorem q_2(h:rM 1 s m):rM 2 s m:=⟨h.1,h.2.le (by omega)⟩
theorem q_2d(h:rM 1 s m)(hx:okMw (m.ct+O 1) x):rM 2 s x:=⟨h.1,hx.le (by have:=h.2.2.2;simp only[zz];omega)⟩
theorem q_w(h:rM 2 s m):i64.wrap (s+O 1)=s+1:=w64 (by have:=h.1;simp only[zz];omega)
theorem q_i(h:rM 2 s m):rI (i64.wrap (s+O 1)) m:=by
 rw[q_w h]
 exact⟨by have:=h.1;omega,h.2.le (by omega)⟩
theorem q_mu{M:Nat}(hm:rI s m)(hs:decide (s<O M)=true)(hM:M<=200):(O 200-i64.wrap (s+O 1)).toNat<(O 200-s).toNat:=by
 have h1:=q_lt hs
 have h2:=hm.1
 have h3:i64.wrap (s+O 1)=s+1:=w64 (by simp only[zz];omega)
 rw[h3]
 simp only[zz]
 omega
theorem q_di(hn:n<=1000000)(h:rM 1 s m):n<=1000000/\okMw (O 1000000000) m:=⟨hn,h.2.le (by have:=h.1;simp only[zz];omega)⟩
theorem q_ex(h:rM 1 s m):∃x,okMw (m.ct+O 1) x:=⟨m,h.2.now.le (by simp only[zz];omega)⟩
theorem q_r(hi:rI s m)(h:decide (s<(n:Int))=true):O 0<=s/\s<n:=⟨hi.1,of_decide_eq_true h⟩
theorem q_r2(hi:rI s m)(h:decide (s<(n:Int))=true):0<1/\0+s.toNat<n:=by
 have h1:=hi.1
 have h2:s<n:=of_decide_eq_true h
 omega
theorem q_v(h:rI s m):wW (m.val n a):=val_ok h.2
theorem q_0(h:okMw 2000000 m):rI (O 0) m:=⟨Int.le_refl 0,h.le (by show(2000000:Int)<=2000000+2*0;decide)⟩
theorem q_cm{c:Cf}{v:Ev}(h:okMq c v){now:Int}{e:Evs}:okCm ⟨v.n,m,now,v.x,0,e⟩:=⟨h.2.2.2.1,h.2.2.2.2.1,Nat.zero_le _⟩
theorem q_ka{c:Cf}{v:Ev}(h:okMq c v):v.n<=v.n/\v.n<=v.a.c:=⟨Z _,h.2.2.2.2.2.1⟩
theorem q_kb{c:Cf}{v:Ev}(h:okMq c v):v.n<=v.n/\v.n<=v.b.c:=⟨Z _,h.2.2.2.2.2.2.1⟩
theorem q_nt{b:Bool}(h:(!b)=true):b=false:=by cases b with|true=>cases h|false=>rfl
theorem q_nf{b:Bool}(h:(!b)=false):b=true:=by cases b with|true=>rfl|false=>cases h
theorem q_ctf{M:Nat}(hm:rI s m)(hs:decide (s<O M)=true)(hM:M<=1000)(h:x=m.acc n k a y):decide (x.ct>i64.wrap (m.ct+O 1))=false:=by
 cases hb:decide (x.ct>i64.wrap (m.ct+O 1)) with
 | false=>rfl
 | true=>exact(q_ct hm hs hM hb h).elim
theorem q_ctg{M:Nat}(hm:rI s m)(hs:decide (s<O M)=true)(hM:M<=1000):decide (m.ct>i64.wrap (m.ct+O 1))=false:=by
 cases hb:decide (m.ct>i64.wrap (m.ct+O 1)) with
 | false=>rfl
 | true=>exact(q_ct0 hm hs hM hb).elim
theorem q_m0{c:Cf}{v:Ev}(h:okMq c v):rI (O 0) v.m:=q_0 h.2.2.2.2.2.2.2
theorem q_n{c:Cf}{v:Ev}(h:okMq c v):v.n<=1000000:=h.2.2.2.1
end
def okYn(W L C T D H:Int):Prop:=(1<=W/\W<=16)/\(1<=L/\L<=64)/\(1<=C/\C<=8)/\(1<=T/\T<=256)/\(1<=D/\D<=64)/\(1<=H/\H<=64)
noncomputable section
def cfN(W L C T D H B A Q:Int)(nP rP nU cU:Nat):Cf:=⟨W,L,C,T,D,H,B,A,Q,nP,rP,nU,cU,fun _=>0,fun _=>0,fun _ _=>0,fun _ _=>0,fun _ _=>0,fun _=>0,fun _=>0,fun _=>0⟩
def hD:HL:=[(0,dum 1),(1,dum 3)]
def argD(c:Cf):SV:=.a (cfL 0 1 c)
end
def bmN(W C H w:Int):Int:=atM w W (4+H+C+W) 1
noncomputable section
def fRm:FuncId:=67
def vBx(c:Cf)(w:Int):V:=verF P con0 4 8 fRm [] .nil [argD c,iv w] ⟨hD,2,fun _=>True⟩ (fin1 2 (.c (.iv .i64 (bmN c.W c.C c.H w))))
end
noncomputable section
def conBx:Con:=Con.add fBt cRBit con0
theorem conBx_ok:zaj P conBx:=.add cRBit_ok zaj.nil
def vHx(x:Int):V:=verF P conBx 3 6 fHi [] (.loop Int [] (fun _=>some ⟨[],fun _=>[],[3],fun i=>[iv i],intT 3,fun i=>(-1<=i/\i<=63)/\x.toNat<2 ^ (i+1).toNat,fun i=>(i+1).toNat⟩) .nil .nil) [.c (uw x)] ⟨[],0,fun _=>True⟩ (fin1 0 (.c (.iv .i64 (hiB x))))
end
theorem vHx_eq(x:Int):V.pr .z (vHx x)=
 U ((-O 1<=O 63/\O 63<=O 63)/\x.toNat<18446744073709551616)
  (nN [(1,.eqI 63 63)]
  (V.any Int (fun (i:Int)=>(-O 1<=i/\i<=O 63)/\x.toNat<2 ^ (i+O 1).toNat) fun (x_1:Int)=>V.br (decide (x_1 >= O 0))
  (nN [qE x,qE x_1]
  (U ((O 0<=x/\x<=O 18446744073709551615)/\O 0<=x_1/\x_1<=O 63)
  (nN [qX (bitB x x_1)]
  (V.any Bool (fun (b:Bool)=>b=bitB x x_1) fun (x_2:Bool)=>V.br x_2
  (U True
  (U (x_1=hiB x) V.ok))
  (U ((-O 1<=i64.wrap (x_1-O 1)/\i64.wrap (x_1-O 1)<=O 63)/\x.toNat<2 ^ (i64.wrap (x_1-O 1)+O 1).toNat)
  (U ((i64.wrap (x_1-O 1)+O 1).toNat<(x_1+O 1).toNat)
  (nN [qE (i64.wrap (x_1-O 1))] V.ok)))))))
  (U True
  (U (Int.negSucc 0=hiB x) V.ok)))):=by kernel_rfl
theorem vBx_eq(c:Cf)(w:Int):V.pr .z (vBx c w)=
 V.br (decide (w<O 0))
  (U True
  (U (Int.negSucc 0=bmN c.W c.C c.H w) V.ok))
  (V.br (decide (w >= c.W))
  (U True
  (U (Int.negSucc 0=bmN c.W c.C c.H w) V.ok))
  (U True
  (U (i64.wrap (i64.wrap (i64.wrap (i64.wrap (O 4+c.H)+c.C)+c.W)+i64.wrap (w*O 1))=bmN c.W c.C c.H w) V.ok))):=by kernel_rfl
theorem tk_m{n t k f:Int}(h:t<0\/n<=t):atM t n f k=-1:=by unfold atM;rw[if_pos h]
theorem tk_p{n t k f:Int}(h:¬(t<0\/n<=t)):atM t n f k=f+t*k:=by unfold atM;rw[if_neg h]
noncomputable section
end
theorem vhBx{c:Cf}{w:Int}(ok:okY c):zad (vBx c w):=by
 have W:=wy ok
 refine zad.pr (vBx_eq ..) ?_
 have e1:i64.wrap (i64.wrap (i64.wrap (O 4+c.H)+c.C)+c.W)=4+c.H+c.C+c.W:=by
  have e0:i64.wrap (O 4+c.H)=4+c.H:=W.w1
  rw[e0,W.w2,W.w10]
 simp only[e1]
 obtain⟨hW,hL,hC,hT,hD,hH⟩:=ok
 unfold bmN
 by_cases hw:w<0\/c.W<=w
 ·rw[tk_m hw]
  (with_reducible repeat' first|exact V.okI|refine V.brT ?_|refine V.brF ?_|refine V.brI ?_ ?_|refine V.anyI ?_|refine nN_h rfl ?_|refine V.needI ?_ ?_|intro _)
  all_goals (simp only[decide_eq_true_eq,decide_eq_false_iff_not,zz,Bool.not_eq_true',Bool.not_eq_false',ge_iff_le,gt_iff_lt,Bool.and_eq_true,Bool.or_eq_true,Bool.not_eq_true,Bool.and_eq_false_iff]at *)
  all_goals first|omega|rfl|trace_state
 ·rw[tk_p hw]
  have e2:i64.wrap (w*O 1)=w*1:=w64 (by simp only[zz];omega)
  have e3:i64.wrap (4+c.H+c.C+c.W+w*1)=4+c.H+c.C+c.W+w*1:=w64 (by omega)
  simp only[e2,e3]
  (with_reducible repeat' first|exact V.okI|refine V.brT ?_|refine V.brF ?_|refine V.brI ?_ ?_|refine V.anyI ?_|refine nN_h rfl ?_|refine V.needI ?_ ?_|intro _)
  all_goals (simp only[decide_eq_true_eq,decide_eq_false_iff_not,zz,Bool.not_eq_true',Bool.not_eq_false',ge_iff_le,gt_iff_lt,Bool.and_eq_true,Bool.or_eq_true,Bool.not_eq_true,Bool.and_eq_false_iff]at *)
  all_goals first|omega|rfl|trace_state
noncomputable section
def xBr:List SV->Hp->Out (SV×Hp):=fun args H=>match args with
 | [.a [x0,x1,x2,x3,x4,x5,x6,x7,x8,.slc kP _ _ _ nP rP,.slc kU _ _ _ nU cU],.c w]=>match numsC [x0,x1,x2,x3,x4,x5,x6,x7,x8,w]with
  | some [W,L,C,T,D,h,B,A,Q,w]=>fN kP fun kP=>fN kU fun kU=>useP [kP,kU] 2 [argD (cfN W L C T D h B A Q nP.v rP.v nU.v cU.v),iv w] hD (.need (okYn W L C T D h) (.leaf (.c (.iv .i64 (bmN W C h w)),⟨[],2,fun _=>True⟩))) args H
  | _=>.bad 452
 | _=>.bad 453
theorem xBr_ok:zab P fRm xBr:=zac fun args H=>by
 unfold xBr
 simp only[fN_eq]
 repeat' split
 all_goals first
  | exact .inl ⟨_,rfl⟩
  | exact .inr ⟨_,_,_,_,_,rfl,zai (sv:=.c (.iv .i64 (bmN _ _ _ _))) zaj.nil fun h=>vhBx (c:=cfN _ _ _ _ _ _ _ _ _ _ _ _ _) h⟩
end
theorem hi_b{x:Int}{k:Nat}(h0:0<=x/\x<=18446744073709551615)(hk:k<=63)(h:x.toNat<2 ^ (k+1))(hb:x.toNat / 2 ^ k % 2=1):hiB x=k:=by
 rw[Nat.pow_succ]at h
 have hp:0<2 ^ k:=Nat.pow_pos (by omega)
 have h3:x.toNat / 2 ^ k<2:=(Nat.div_lt_iff_lt_mul hp).2 (by omega)
 have h5:x.toNat / 2 ^ k=1:=by
  generalize x.toNat / 2 ^ k=q at *
  omega
 have h2:2 ^ k<=x.toNat:=by
  have:=(Nat.le_div_iff_mul_le hp).1 (Nat.le_of_eq h5.symm)
  omega
 have h4:=Lib.bitLen_shift k x.toNat h2 (Nat.lt_of_le_of_lt (show x.toNat<=18446744073709551615 by omega) (by decide))
 rw[h5,show Lib.bitLen 1=1 by decide]at h4
 unfold hiB
 rw[h4,w64 (by omega)]
 omega
theorem hi_q{q:Nat}(h:q<2)(hb:¬q % 2=1):q<1:=by omega
theorem hi_s{x:Int}{k:Nat}(h:x.toNat<2 ^ (k+1))(hb:¬x.toNat / 2 ^ k % 2=1):x.toNat<2 ^ k:=by
 rw[Nat.pow_succ]at h
 have hp:0<2 ^ k:=Nat.pow_pos (by omega)
 have h3:x.toNat / 2 ^ k<2:=(Nat.div_lt_iff_lt_mul hp).2 (by omega)
 have:=(Nat.div_lt_iff_lt_mul hp).1 (hi_q h3 hb)
 omega
def hI(x i:Int):Prop:=(-O 1<=i/\i<=O 63)/\x.toNat<2 ^ (i+O 1).toNat
section
variable {x i:Int} {b:Bool}
theorem hx_k(h:hI x i)(hd:decide (i >= O 0)=true):∃k:Nat,i=k/\k<=63/\x.toNat<2 ^ (k+1):=by
 have hd:i >= 0:=of_decide_eq_true hd
 have h1:(-1<=i/\i<=63)/\x.toNat<2 ^ (i+1).toNat:=h
 obtain⟨k,rfl⟩:∃k:Nat,i=k:=⟨i.toNat,by omega⟩
 have e:((k:Int)+1).toNat=k+1:=by omega
 rw[e]at h1
 exact⟨k,rfl,by omega,h1.2⟩
theorem hx_r(h0:0<=x/\x<=18446744073709551615)(h:hI x i)(hd:decide (i >= O 0)=true):(O 0<=x/\x<=O 18446744073709551615)/\O 0<=i/\i<=O 63:=⟨h0,of_decide_eq_true hd,h.1.2⟩
theorem hx_b(h0:0<=x/\x<=18446744073709551615)(h:hI x i)(hd:decide (i >= O 0)=true)(hb:b=bitB x i)(ht:b=true):i=hiB x:=by
 obtain⟨k,rfl,hk,h1⟩:=hx_k h hd
 rw[ht]at hb
 have hb:=of_decide_eq_true hb.symm
 rw[Int.toNat_natCast]at hb
 exact(hi_b h0 hk h1 hb).symm
theorem hx_s(h:hI x i)(hd:decide (i >= O 0)=true)(hb:b=bitB x i)(ht:b=false):hI x (i64.wrap (i-O 1))/\(i64.wrap (i-O 1)+O 1).toNat<(i+O 1).toNat:=by
 obtain⟨k,rfl,hk,h1⟩:=hx_k h hd
 rw[ht]at hb
 have hb:=of_decide_eq_false hb.symm
 rw[Int.toNat_natCast]at hb
 have h2:=hi_s h1 hb
 have e:i64.wrap ((k:Int)-O 1)=(k:Int)-1:=w64 (by simp only[zz];omega)
 rw[e]
 have e2:((k:Int)-1+O 1).toNat=k:=by simp only[zz];omega
 have e3:((k:Int)+O 1).toNat=k+1:=by simp only[zz];omega
 unfold hI
 rw[e2,e3]
 exact⟨⟨⟨by simp only[zz];omega,by simp only[zz];omega⟩,h2⟩,by omega⟩
theorem hx_0(h0:0<=x/\x<=18446744073709551615)(h:hI x i)(hd:decide (i >= O 0)=false):Int.negSucc 0=hiB x:=by
 have hd:¬i >= 0:=of_decide_eq_false hd
 have h1:(-1<=i/\i<=63)/\x.toNat<2 ^ (i+1).toNat:=h
 have e:(i+1).toNat=0:=by omega
 rw[e]at h1
 have h2:x.toNat<1:=h1.2
 have e:x=0:=by omega
 subst e
 decide
end
theorem vhHx{x:Int}(h0:0<=x/\x<=18446744073709551615):zad (vHx x):=by
 refine zad.pr (vHx_eq ..) ?_
 refine V.needI ⟨⟨by decide,by decide⟩,by omega⟩ (nN_h rfl (V.anyI fun i hi=>?_))
 have hi:hI x i:=hi
 refine V.brI (fun hd=>nN_h rfl (V.needI (hx_r h0 hi hd) (nN_h rfl (V.anyI fun b hb=>V.brI (fun ht=>V.needI trivial (V.needI (hx_b h0 hi hd hb ht) V.okI)) fun ht=>V.needI (hx_s hi hd hb ht).1 (V.needI (hx_s hi hd hb ht).2 (nN_h rfl V.okI)))))) fun hd=>V.needI trivial (V.needI (hx_0 h0 hi hd) V.okI)
noncomputable section
def xHi:List SV->Hp->Out (SV×Hp):=fun args H=>match nums args with
 | some [x]=>useP [] 0 [.c (uw x)] [] (.need (0<=x/\x<=18446744073709551615) (.leaf (.c (.iv .i64 (hiB x)),⟨[],0,fun _=>True⟩))) args H
 | _=>.bad 484
theorem xHi_ok:zab P fHi xHi:=zac fun args H=>by
 unfold xHi
 repeat' split
 all_goals first|exact .inl ⟨_,rfl⟩|exact .inr ⟨_,_,_,_,_,rfl,zai conBx_ok fun h=>vhHx h⟩
end
section
variable {m:Mm} {n:Nat}
end
def laN1(i:Nat)(s:St):Option (LA Int):=some ⟨[],fun _=>[],[i],fun x=>[iv x],tmI i,fun _=>True,fun _=>0⟩
section
variable {g:Nat->Int} {len n:Nat} {d c:Cf} {v:Ev} {l:Sc}
theorem dec_W(hu:U8 len g)(h:IsDec g len d):d.W<=4/\d.H<=4/\d.nU<=900000:=by
 obtain⟨FC,rc,cu,-,rfl⟩:=h
 have h1:=dW_r hu
 have h2:=nU_le hu
 have h3:=dH_r hu
 exact⟨h1.2,h3.2,by show nU g len<=900000;omega⟩
theorem dec_pre(hu:U8 len g)(h:IsDec g len d){q:Nat}(hl:okSc (O q) l)(hq:q<=1000):preEv d l.n:=by
 have h1:=dec_W hu h
 have h2:=hl.2
 simp only[zz]at h2
 exact⟨dec_err hu h,dec_okC hu h,h1.1,h1.2.2,by omega⟩
theorem dec_Y(hu:U8 len g)(h:IsDec g len d):okY d:=okY_of (dec_err hu h)
theorem dec_mq(hu:U8 len g)(h:IsDec g len d)(hv:okEv d v){c e:Cf}(hc:(c.W=d.W/\c.L=d.L/\c.C=d.C)/\c.T=d.T/\c.D=d.D/\c.H=d.H){now dr:Int}:okMq c ⟨e,v.n,v.m,v.x,now,dr,v.a,v.b⟩:=by
 obtain⟨-,v1,v2,v3,-,-,v6,v7,-,-,v8⟩:=hv
 have hn:=nc_4 (dec_Y hu h)
 rw[<-v1]at hn
 obtain⟨⟨e1,e2,e3⟩,e4,e5,e6⟩:=hc
 refine⟨?_,by rw[e4];exact v2,hn.1,hn.2,v3,v6,v7,v8.le (by omega)⟩
 unfold okY
 rw[e1,e2,e3,e4,e5,e6]
 exact dec_Y hu h
theorem dec_rc(h:IsDec g len d):(d.nP<=d.nP/\d.nP<=d.rc)/\(d.nU<=d.nU/\d.nU<=d.cu):=by
 obtain⟨FC,rc,cu,⟨h1,h2,h3⟩,rfl⟩:=h
 exact⟨⟨Z _,h2⟩,Z _,h3⟩
theorem dec_gd(h:IsDec g len d){i:Nat}(hi:i<d.nP):d.lenP i<=gd d.nP d.lenP i/\d.lenP i<=gd d.nP d.FC i:=by
 obtain⟨FC,rc,cu,⟨h1,h2,h3⟩,rfl⟩:=h
 unfold gd
 rw[if_pos hi,if_pos hi]
 exact⟨Z _,h1 i hi⟩
theorem s_len{l q k:Nat}(h:decide ((l:Int)>O q)=false)(hq:q<=1000):l<=1000000/\O 0<=O k:=by
 have:=of_decide_eq_false h
 simp only[zz]at this ⊢
 omega
theorem ex_dec(hu:U8 len g):∃d,IsDec g len d:=⟨_,fun e=>lenP g len e,nP g len,nU g len,⟨fun _ _=>Z _,Z _,Z _⟩,rfl⟩
theorem ex_sc{q:Nat}:∃l,okSc (O q) l:=⟨⟨0,0,fun _=>0,fun _=>0⟩,Z _,Int.natCast_nonneg q⟩
end
end Go.Proofs.YtabiechfpefjhaaGreat.En
