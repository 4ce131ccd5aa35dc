/- A part of the proof. -/
import Derived.Test.YtjgldffneablmaaGreatMEnI
import Derived.Test.YtjgldffneablmaaGreatMV
import Derived.Test.YtjgldffneablmaaGreatMEg
import Derived.Test.YtjgldffneablmaaGreatMMdAl
import Derived.Test.YtjgldffneablmaaGreatMMdAlC
import Derived.Test.YtjgldffneablmaaGreatMW
import Derived.Test.YtjgldffneablmaaGreatMNw
import Derived.Test.YtjgldffneablmaaGreatMMd
set_option linter.unusedVariables false
set_option linter.unusedSimpArgs false
set_option maxRecDepth 100000
open Go.IntKind (i64 u64)
open Int renaming ofNat -> O, ofNat_eq_natCast -> Z
open Nat renaming le_refl -> zq
open Bool renaming and_eq_true -> zu, not_eq_true' -> z7, not_eq_false' -> za, or_eq_true -> zf, not_eq_true -> zg, and_eq_false_iff -> zb
open Go.Proofs.YtjgldffneablmaaGreat.Sx.V renaming need -> U, ok -> zx, needI -> zd, anyI -> zk
namespace Go.Proofs.YtjgldffneablmaaGreat.En
open Go Go.RowKit Sx Cn Dc Ck Vc Md
noncomputable section
def laCt{X:Type}(la:St->Option (LA X))(J:Int->X->Prop)(s:St):Option (LA X):=match tmI 13 s,la s with
 | some q,some ⟨pa,bl,_,tv,rd,_,mu⟩=>some ⟨pa,bl,[2],fun x=>(match tv x with|[_,b]=>[b]|l=>l),rd,J q,mu⟩
 | _,_=>none
def frABD(k:Nat)(h:HL):Option (Int×Int×Int×Int×Nat):=match find k h with
 | some (.row _ c _ (.ck [.ki _ n]::_::_::_::_::_::.ck [a]::.ck [b]::.ck [d]::_))=>match numC a,numC b,numC d with
  | some x,some y,some z=>some (n,x,y,z,c)
  | _,_,_=>none
 | _=>none
def argMq(x:SC)(M ln lc:Nat):List SV:=[.c (.ptr 0 (.k 0) (.k 0) 0 26),.c (.ptr 7 (.k 0) (.k 0) 0 21),.c x,.c (.ptr 15 (.k 0) (.k 0) 0 4),.c (slK 17 1 ln lc),.c (.ki .i64 (O M))]
end
def okMq(c:Cf)(v:Ev):Prop:=okY c/\v.x.n=c.T.toNat/\4<=v.n/\v.n<=1000000/\okRk v.x/\v.n<=v.a.c/\v.n<=v.b.c/\okMw 2000000 v.m
def rM(b s:Int)(m:Mm):Prop:=(0<=s/\s<1000)/\okMw (2000000+2*s+b) m
def rI(s:Int)(m:Mm):Prop:=0<=s/\okMw (2000000+2*s) m
section
variable {s:Int} {m x:Mm} {n:Nat} {k a y:Int}
theorem q_lt{M:Nat}(h:decide (s<O M)=true):s<M:=of_decide_eq_true h
theorem q_j{M:Nat}(hm:rI s m)(hs:decide (s<O M)=true)(hM:M<=1000)(h:x=m.acc n k a y)(hy:wW y):rM 1 s x:=by
 have:=q_lt hs
 subst h
 exact⟨⟨hm.1,by omega⟩,zhx hm.2 (by omega) hy⟩
theorem q_ct{M:Nat}(hm:rI s m)(hs:decide (s<O M)=true)(hM:M<=1000)(hb:decide (x.ct>i64.wrap (m.ct+O 1))=true)(h:x=m.acc n k a y):False:=by
 have:=q_lt hs
 exact ct_no hm.2 (by omega) hb h
theorem q_ct0{M:Nat}(hm:rI s m)(hs:decide (s<O M)=true)(hM:M<=1000)(hb:decide (m.ct>i64.wrap (m.ct+O 1))=true):False:=by
 have h1:=q_lt hs
 have h2:=hm.2.2
 have h3:i64.wrap (m.ct+1)=m.ct+1:=w64 (by omega)
 have hb:m.ct>i64.wrap (m.ct+1):=of_decide_eq_true hb
 omega
theorem q_2(h:rM 1 s m):rM 2 s m:=⟨h.1,h.2.le (by omega)⟩
theorem q_2d(h:rM 1 s m)(hx:okMw (m.ct+O 1) x):rM 2 s x:=⟨h.1,hx.le (by have:=h.2.2.2;simp only[Z];omega)⟩
theorem q_w(h:rM 2 s m):i64.wrap (s+O 1)=s+1:=w64 (by have:=h.1;simp only[Z];omega)
theorem q_i(h:rM 2 s m):rI (i64.wrap (s+O 1)) m:=by
 rw[q_w h]
 exact⟨by have:=h.1;omega,h.2.le (by omega)⟩
theorem q_mu{M:Nat}(hm:rI s m)(hs:decide (s<O M)=true)(hM:M<=200):(O 200-i64.wrap (s+O 1)).toNat<(O 200-s).toNat:=by
 have h1:=q_lt hs
 have h2:=hm.1
 have h3:i64.wrap (s+O 1)=s+1:=w64 (by simp only[Z];omega)
 rw[h3]
 simp only[Z]
 omega
theorem q_di(hn:n<=1000000)(h:rM 1 s m):n<=1000000/\okMw (O 1000000000) m:=⟨hn,h.2.le (by have:=h.1;simp only[Z];omega)⟩
theorem q_ex(h:rM 1 s m):∃x,okMw (m.ct+O 1) x:=⟨m,h.2.now.le (by simp only[Z];omega)⟩
theorem q_r(hi:rI s m)(h:decide (s<(n:Int))=true):O 0<=s/\s<n:=⟨hi.1,of_decide_eq_true h⟩
theorem q_r2(hi:rI s m)(h:decide (s<(n:Int))=true):0<1/\0+s.toNat<n:=by
 have h1:=hi.1
 have h2:s<n:=of_decide_eq_true h
 omega
theorem q_v(h:rI s m):wW (m.val n a):=val_ok h.2
theorem q_0(h:okMw 2000000 m):rI (O 0) m:=⟨Int.le_refl 0,h.le (by show(2000000:Int)<=2000000+2*0;decide)⟩
theorem q_ka{c:Cf}{v:Ev}(h:okMq c v):v.n<=v.n/\v.n<=v.a.c:=⟨zq _,h.2.2.2.2.2.1⟩
theorem q_kb{c:Cf}{v:Ev}(h:okMq c v):v.n<=v.n/\v.n<=v.b.c:=⟨zq _,h.2.2.2.2.2.2.1⟩
theorem q_yk{c:Cf}{v:Ev}(h:okMq c v){k:Nat}(hk:k<=4):(okY c)/\0<=O k/\O k<=4:=⟨h.1,Int.natCast_nonneg _,by simp only[Z];omega⟩
theorem q_nt{b:Bool}(h:(!b)=true):b=false:=by cases b with|true=>cases h|false=>rfl
theorem q_nf{b:Bool}(h:(!b)=false):b=true:=by cases b with|true=>rfl|false=>cases h
theorem q_ctf{M:Nat}(hm:rI s m)(hs:decide (s<O M)=true)(hM:M<=1000)(h:x=m.acc n k a y):decide (x.ct>i64.wrap (m.ct+O 1))=false:=by
 cases hb:decide (x.ct>i64.wrap (m.ct+O 1)) with
 | false=>rfl
 | true=>exact(q_ct hm hs hM hb h).elim
theorem q_ctg{M:Nat}(hm:rI s m)(hs:decide (s<O M)=true)(hM:M<=1000):decide (m.ct>i64.wrap (m.ct+O 1))=false:=by
 cases hb:decide (m.ct>i64.wrap (m.ct+O 1)) with
 | false=>rfl
 | true=>exact(q_ct0 hm hs hM hb).elim
theorem q_if{α:Type}{i e q r:Nat}{b d:α}(h:i=0/\e<r):(if i=0/\e=q then b else d)=if 0=0/\e=q then b else d:=by rw[h.1]
theorem q_same{i e q:Nat}{f:Nat->Bool}(h:f q=true):(if i=0/\e=q then true else f e)=f e:=by
 split
 ·rename_i g;rw[g.2,h]
 ·rfl
theorem q_m0{c:Cf}{v:Ev}(h:okMq c v):rI (O 0) v.m:=q_0 h.2.2.2.2.2.2.2
theorem q_n{c:Cf}{v:Ev}(h:okMq c v):v.n<=1000000:=h.2.2.2.1
end
def okYn(W L C T D H:Int):Prop:=(1<=W/\W<=16)/\(1<=L/\L<=64)/\(1<=C/\C<=8)/\(1<=T/\T<=256)/\(1<=D/\D<=64)/\(1<=H/\H<=64)
def lQn(W C H:Int):Int:=4+H+C+W+W
def lTn(W L C D H:Int):Int:=lQn W C H+W*L*(2+D)
def tkN(W L C T D H t k:Int):Int:=atM t T (lTn W L C D H+k) 5
noncomputable section
def cfN(W L C T D H B A Q:Int)(nP rP nU cU:Nat):Cf:=⟨W,L,C,T,D,H,B,A,Q,nP,rP,nU,cU,fun _=>0,fun _=>0,fun _ _=>0,fun _ _=>0,fun _ _=>0,fun _=>0,fun _=>0,fun _=>0⟩
def hD:HL:=[(0,dum 1),(1,dum 3)]
def argD(c:Cf):SV:=.a (cfL 0 1 c)
def conCd(post:Cf->Int->Int->Out (SV×Hp)):List SV->Hp->Out (SV×Hp):=fun args H=>match args with
 | [.a [x0,x1,x2,x3,x4,x5,x6,x7,x8,.slc kP _ _ _ nP rP,.slc kU _ _ _ nU cU],.c w,.c v]=>match numsC [x0,x1,x2,x3,x4,x5,x6,x7,x8,w,v]with
  | some [W,L,C,T,D,h,B,A,Q,w,v]=>fN kP fun kP=>fN kU fun kU=>useP [kP,kU] 2 [argD (cfN W L C T D h B A Q nP.v rP.v nU.v cU.v),iv w,iv v] hD (post (cfN W L C T D h B A Q nP.v rP.v nU.v cU.v) w v) args H
  | _=>.bad 452
 | _=>.bad 453
theorem conCd_ok{f:FuncId}{post:Cf->Int->Int->Out (SV×Hp)}(h:∀c w v,zai P f [argD c,iv w,iv v] hD 2 (post c w v)):zab P f (conCd post):=zad fun args H=>by
 unfold conCd
 simp only[fN_eq]
 repeat' split
 all_goals first
  | exact .inl ⟨_,rfl⟩
  | exact .inr ⟨_,_,_,_,_,rfl,h _ _ _⟩
def vTx(c:Cf)(t k:Int):V:=verF P con0 4 8 fTw [] .nil [argD c,iv t,iv k] ⟨hD,2,fun _=>True⟩ (fin1 2 (.c (.iv .i64 (tkN c.W c.L c.C c.T c.D c.H t k))))
end
def quN(W L C D H w l:Int):Qu:=if(w<0\/W<=w)\/(l<0\/L<=l) then⟨-1,-1,-1,0⟩ else⟨lQn W C H+w*(L*(2+D))+l*(2+D),lQn W C H+w*(L*(2+D))+l*(2+D)+1,lQn W C H+w*(L*(2+D))+l*(2+D)+2,D⟩
def bmN(W C H w:Int):Int:=atM w W (4+H+C+W) 1
noncomputable section
def quA(q:Qu):SV:=.a [i6 q.t,i6 q.b,i6 q.r,i6 q.c]
def vQx(c:Cf)(w l:Int):V:=verF P con0 4 8 fQw [] .nil [argD c,iv w,iv l] ⟨hD,2,fun _=>True⟩ (fin1 2 (quA (quN c.W c.L c.C c.D c.H w l)))
def fRm:FuncId:=70
def vBx(c:Cf)(w:Int):V:=verF P con0 4 8 fRm [] .nil [argD c,iv w] ⟨hD,2,fun _=>True⟩ (fin1 2 (.c (.iv .i64 (bmN c.W c.C c.H w))))
def vMx(v:Int):V:=verF P conPw 3 6 fMk [] .nil [iv v] ⟨[],0,fun _=>True⟩ (fin1 0 (.c (.iv .u64 (bitM v))))
def vRx(a b c d i:Int):V:=verF P con0 4 8 fRg [] .nil [.a [i6 a,i6 b,i6 c,i6 d],.c (uw i)] ⟨[],0,fun _=>True⟩ (fin1 0 (.c (.iv .i64 (zd7 c d i))))
end
noncomputable section
def fLb:FuncId:=178
def vLb(y:Ly)(w:Int):V:=verF P con0 4 8 fLb [] .nil [.a y.l,iv w] ⟨[],0,fun _=>True⟩ (fin1 0 (.c (.iv .i64 (bmN y.W y.C y.H w))))
end
theorem vLb_eq(y:Ly)(w:Int):V.pr .z (vLb y w)=
 V.br (decide (w<O 0))
  (U True
  (U (Int.negSucc 0=bmN y.W y.C y.H w) zx))
  (V.br (decide (w >= y.W))
  (U True
  (U (Int.negSucc 0=bmN y.W y.C y.H w) zx))
  (U True
  (U (i64.wrap (y.bm+i64.wrap (w*O 1))=bmN y.W y.C y.H w) zx))):=by kernel_rfl
theorem vQx_eq(c:Cf)(w l:Int):V.pr .z (vQx c w l)=
 V.br (decide (w<O 0))
  (U True
  (U (Int.negSucc 0=(quN c.W c.L c.C c.D c.H w l).t)
  (U (Int.negSucc 0=(quN c.W c.L c.C c.D c.H w l).b)
  (U (Int.negSucc 0=(quN c.W c.L c.C c.D c.H w l).r)
  (U (O 0=(quN c.W c.L c.C c.D c.H w l).c) zx)))))
  (V.br (decide (w >= c.W))
  (U True
  (U (Int.negSucc 0=(quN c.W c.L c.C c.D c.H w l).t)
  (U (Int.negSucc 0=(quN c.W c.L c.C c.D c.H w l).b)
  (U (Int.negSucc 0=(quN c.W c.L c.C c.D c.H w l).r)
  (U (O 0=(quN c.W c.L c.C c.D c.H w l).c) zx)))))
  (V.br (decide (l<O 0))
  (U True
  (U (Int.negSucc 0=(quN c.W c.L c.C c.D c.H w l).t)
  (U (Int.negSucc 0=(quN c.W c.L c.C c.D c.H w l).b)
  (U (Int.negSucc 0=(quN c.W c.L c.C c.D c.H w l).r)
  (U (O 0=(quN c.W c.L c.C c.D c.H w l).c) zx)))))
  (V.br (decide (l >= c.L))
  (U True
  (U (Int.negSucc 0=(quN c.W c.L c.C c.D c.H w l).t)
  (U (Int.negSucc 0=(quN c.W c.L c.C c.D c.H w l).b)
  (U (Int.negSucc 0=(quN c.W c.L c.C c.D c.H w l).r)
  (U (O 0=(quN c.W c.L c.C c.D c.H w l).c) zx)))))
  (nN [(15,.lt2 0 1 0 1)]
  (U True
  (U (i64.wrap (i64.wrap (i64.wrap (i64.wrap (O 4+c.H)+c.C)+i64.wrap (O 2*c.W))+i64.wrap (i64.wrap (i64.wrap (w*c.L)+l)*i64.wrap (O 2+c.D)))=(quN c.W c.L c.C c.D c.H w l).t)
  (U (i64.wrap (i64.wrap (i64.wrap (i64.wrap (i64.wrap (O 4+c.H)+c.C)+i64.wrap (O 2*c.W))+i64.wrap (i64.wrap (i64.wrap (w*c.L)+l)*i64.wrap (O 2+c.D)))+O 1)=(quN c.W c.L c.C c.D c.H w l).b)
  (U (i64.wrap (i64.wrap (i64.wrap (i64.wrap (i64.wrap (O 4+c.H)+c.C)+i64.wrap (O 2*c.W))+i64.wrap (i64.wrap (i64.wrap (w*c.L)+l)*i64.wrap (O 2+c.D)))+O 2)=(quN c.W c.L c.C c.D c.H w l).r)
  (U (c.D=(quN c.W c.L c.C c.D c.H w l).c) zx))))))))):=by kernel_rfl
theorem vBx_eq(c:Cf)(w:Int):V.pr .z (vBx c w)=
 V.br (decide (w<O 0))
  (U True
  (U (Int.negSucc 0=bmN c.W c.C c.H w) zx))
  (V.br (decide (w >= c.W))
  (U True
  (U (Int.negSucc 0=bmN c.W c.C c.H w) zx))
  (U True
  (U (i64.wrap (i64.wrap (i64.wrap (i64.wrap (O 4+c.H)+c.C)+c.W)+i64.wrap (w*O 1))=bmN c.W c.C c.H w) zx))):=by kernel_rfl
theorem vMx_eq(v:Int):V.pr .z (vMx v)=
 V.br (decide (v<O 0))
  (U True
  (U (O 0=bitM v) zx))
  (V.br (decide (v>O 63))
  (U True
  (U (O 0=bitM v) zx))
  (U (v=(↑v.toNat:Int))
  (U (O 0<=v/\v<=O 63)
  (nN [qX (O 2 ^ v.toNat)]
  (V.any Int (fun (r:Int)=>r=O 2 ^ v.toNat) fun (x:Int)=>U True
  (U (x=bitM v) zx)))))):=by kernel_rfl
theorem vRx_eq(a b c d i:Int):V.pr .z (vRx a b c d i)=
 V.br (decide (d<O 1))
  (U True
  (U (Int.negSucc 0=zd7 c d i) zx))
  (nN [(4,.lt2 0 1 0 1)]
  (U (u64.wrap d≠O 0)
  (U True
  (U (i64.wrap (c+i64.wrap (i.tmod (u64.wrap d)))=zd7 c d i) zx)))):=by kernel_rfl
theorem vTx_eq(c:Cf)(t k:Int):V.pr .z (vTx c t k)=
 nN [(19,.lt2 0 1 0 1)]
  (V.br (decide (t<O 0))
  (U True
  (U (Int.negSucc 0=tkN c.W c.L c.C c.T c.D c.H t k) zx))
  (V.br (decide (t >= c.T))
  (U True
  (U (Int.negSucc 0=tkN c.W c.L c.C c.T c.D c.H t k) zx))
  (V.br (decide (i64.wrap (i64.wrap (i64.wrap (i64.wrap (i64.wrap (O 4+c.H)+c.C)+i64.wrap (O 2*c.W))+i64.wrap (i64.wrap (c.W*c.L)*i64.wrap (O 2+c.D)))+i64.wrap (t*O 5))<O 0))
  (U True
  (U (Int.negSucc 0=tkN c.W c.L c.C c.T c.D c.H t k) zx))
  (U True
  (U (i64.wrap (i64.wrap (i64.wrap (i64.wrap (i64.wrap (i64.wrap (O 4+c.H)+c.C)+i64.wrap (O 2*c.W))+i64.wrap (i64.wrap (c.W*c.L)*i64.wrap (O 2+c.D)))+i64.wrap (t*O 5))+k)=tkN c.W c.L c.C c.T c.D c.H t k) zx))))):=by kernel_rfl
theorem lQ_x{c:Cf}(ok:okY c):i64.wrap (i64.wrap (i64.wrap (O 4+c.H)+c.C)+i64.wrap (O 2*c.W))=lQ c:=by
 have W:=wy ok
 simp only[Z,Int.cast_ofNat_Int]
 rw[W.w1,W.w2,W.w3,W.w4]
theorem lT_x{c:Cf}(ok:okY c):i64.wrap (lQ c+i64.wrap (i64.wrap (c.W*c.L)*i64.wrap (O 2+c.D)))=lT c:=by
 have W:=wy ok
 simp only[Z,Int.cast_ofNat_Int]
 rw[W.w5,W.w6,W.w7,W.w8]
theorem tk_m{n t k f:Int}(h:t<0\/n<=t):atM t n f k=-1:=by unfold atM;rw[if_pos h]
theorem tk_p{n t k f:Int}(h:¬(t<0\/n<=t)):atM t n f k=f+t*k:=by unfold atM;rw[if_neg h]
theorem vhTx{c:Cf}{t k:Int}(h:okY c/\0<=k/\k<=4):zac (vTx c t k):=by
 obtain⟨ok,hk⟩:=h
 have hb:=(wy ok).t
 have hT:1<=c.T/\c.T<=256:=ok.2.2.2.1
 refine zac.pr (vTx_eq ..) ?_
 simp only[lQ_x ok,lT_x ok]
 have e:tkN c.W c.L c.C c.T c.D c.H t k=atM t c.T (lT c+k) 5:=rfl
 rw[e]
 by_cases ht:t<0\/c.T<=t
 ·rw[tk_m ht]
  (with_reducible repeat' first|exact V.okI|refine V.brT ?_|refine V.brF ?_|refine V.brI ?_ ?_|refine zk ?_|refine nN_h rfl ?_|refine zd ?_ ?_|intro _)
  all_goals (simp only[decide_eq_true_eq,decide_eq_false_iff_not,Z,z7,za,ge_iff_le,gt_iff_lt,zu,zf,zg,zb]at *)
  all_goals first|omega|rfl|trace_state
 ·rw[tk_p ht]
  have e1:i64.wrap (t*O 5)=t*5:=w64 (by simp only[Z];omega)
  have e2:i64.wrap (lT c+t*5)=lT c+t*5:=w64 (by omega)
  have e3:i64.wrap (lT c+t*5+k)=lT c+t*5+k:=w64 (by omega)
  simp only[e1,e2,e3]
  (with_reducible repeat' first|exact V.okI|refine V.brT ?_|refine V.brF ?_|refine V.brI ?_ ?_|refine zk ?_|refine nN_h rfl ?_|refine zd ?_ ?_|intro _)
  all_goals (simp only[decide_eq_true_eq,decide_eq_false_iff_not,Z,z7,za,ge_iff_le,gt_iff_lt,zu,zf,zg,zb]at *)
  all_goals first|omega|rfl|trace_state
noncomputable section
def xTk:List SV->Hp->Out (SV×Hp):=conCd fun c t k=>.need (okYn c.W c.L c.C c.T c.D c.H/\0<=k/\k<=4) (.leaf (.c (.iv .i64 (tkN c.W c.L c.C c.T c.D c.H t k)),⟨[],2,fun _=>True⟩))
theorem xTk_ok:zab P fTw xTk:=conCd_ok fun c t k=>zah zak.nil fun h=>vhTx h
end
theorem vhQx{c:Cf}{w l:Int}(ok:okY c):zac (vQx c w l):=by
 have W:=wy ok
 refine zac.pr (vQx_eq ..) ?_
 have eD:i64.wrap (O 2+c.D)=2+c.D:=W.w6
 simp only[lQ_x ok,eD]
 have e:quN c.W c.L c.C c.D c.H w l=if(w<0\/c.W<=w)\/(l<0\/c.L<=l) then⟨-1,-1,-1,0⟩ else⟨lQ c+w*(c.L*(2+c.D))+l*(2+c.D),lQ c+w*(c.L*(2+c.D))+l*(2+c.D)+1,lQ c+w*(c.L*(2+c.D))+l*(2+c.D)+2,c.D⟩:=rfl
 rw[e]
 by_cases hc:(w<0\/c.W<=w)\/(l<0\/c.L<=l)
 ·rw[if_pos hc]
  (with_reducible repeat' first|exact V.okI|refine V.brT ?_|refine V.brF ?_|refine V.brI ?_ ?_|refine zk ?_|refine nN_h rfl ?_|refine zd ?_ ?_|intro _)
  all_goals (simp only[decide_eq_true_eq,decide_eq_false_iff_not,Z,z7,za,ge_iff_le,gt_iff_lt,zu,zf,zg,zb]at *)
  all_goals first|omega|rfl|trace_state
 ·rw[if_neg hc]
  obtain⟨hW,hL,hC,hT,hD,hH⟩:=ok
  have q:=W.q
  have h1:=mulB (a:=w) (b:=c.L) (A:=16) (B:=64) (by omega) (by omega) (by omega) hL.2
  have h2:=mulB (a:=w) (b:=c.L*(2+c.D)) (A:=16) (B:=4224) (by omega) (by omega) W.y.1 W.y.2
  have h3:=mulB (a:=l) (b:=2+c.D) (A:=64) (B:=66) (by omega) (by omega) (by omega) (by omega)
  have e1:i64.wrap (i64.wrap (w*c.L)+l)=w*c.L+l:=by rw[w64 (n:=w*c.L) (by omega),w64 (by omega)]
  have e2:(w*c.L+l)*(2+c.D)=w*(c.L*(2+c.D))+l*(2+c.D):=by rw[Int.add_mul,Int.mul_assoc]
  simp only[e1,e2]
  generalize w*(c.L*(2+c.D))=X at *
  generalize l*(2+c.D)=Y at *
  have e3:i64.wrap (X+Y)=X+Y:=w64 (by omega)
  have e4:i64.wrap (lQ c+(X+Y))=lQ c+X+Y:=by rw[w64 (by omega)];omega
  have e5:i64.wrap (lQ c+X+Y+O 1)=lQ c+X+Y+1:=w64 (by simp only[Z];omega)
  have e6:i64.wrap (lQ c+X+Y+O 2)=lQ c+X+Y+2:=w64 (by simp only[Z];omega)
  simp only[e3,e4,e5,e6]
  (with_reducible repeat' first|exact V.okI|refine V.brT ?_|refine V.brF ?_|refine V.brI ?_ ?_|refine zk ?_|refine nN_h rfl ?_|refine zd ?_ ?_|intro _)
  all_goals (simp only[decide_eq_true_eq,decide_eq_false_iff_not,Z,z7,za,ge_iff_le,gt_iff_lt,zu,zf,zg,zb]at *)
  all_goals first|omega|rfl|trace_state
theorem vhBx{c:Cf}{w:Int}(ok:okY c):zac (vBx c w):=by
 have W:=wy ok
 refine zac.pr (vBx_eq ..) ?_
 have e1:i64.wrap (i64.wrap (i64.wrap (O 4+c.H)+c.C)+c.W)=4+c.H+c.C+c.W:=by
  have e0:i64.wrap (O 4+c.H)=4+c.H:=W.w1
  rw[e0,W.w2,W.w10]
 simp only[e1]
 obtain⟨hW,hL,hC,hT,hD,hH⟩:=ok
 unfold bmN
 by_cases hw:w<0\/c.W<=w
 ·rw[tk_m hw]
  (with_reducible repeat' first|exact V.okI|refine V.brT ?_|refine V.brF ?_|refine V.brI ?_ ?_|refine zk ?_|refine nN_h rfl ?_|refine zd ?_ ?_|intro _)
  all_goals (simp only[decide_eq_true_eq,decide_eq_false_iff_not,Z,z7,za,ge_iff_le,gt_iff_lt,zu,zf,zg,zb]at *)
  all_goals first|omega|rfl|trace_state
 ·rw[tk_p hw]
  have e2:i64.wrap (w*O 1)=w*1:=w64 (by simp only[Z];omega)
  have e3:i64.wrap (4+c.H+c.C+c.W+w*1)=4+c.H+c.C+c.W+w*1:=w64 (by omega)
  simp only[e2,e3]
  (with_reducible repeat' first|exact V.okI|refine V.brT ?_|refine V.brF ?_|refine V.brI ?_ ?_|refine zk ?_|refine nN_h rfl ?_|refine zd ?_ ?_|intro _)
  all_goals (simp only[decide_eq_true_eq,decide_eq_false_iff_not,Z,z7,za,ge_iff_le,gt_iff_lt,zu,zf,zg,zb]at *)
  all_goals first|omega|rfl|trace_state
theorem mk_eq{x v:Int}(h:x=((2:Nat):Int) ^ v.toNat)(h1:¬v<((0:Nat):Int))(h2:¬((63:Nat):Int)<v):x=if v<0\/v>63 then 0 else u64.wrap (1*2 ^ min (u64.wrap v).toNat 64):=by
 have hp:=pow63 (show v.toNat<=63 by omega)
 rw[if_neg (by omega),wu64 (n:=v) (by omega),Nat.min_eq_left (by omega),Int.one_mul,wu64 (by omega)]
 exact h
theorem vhMx{v:Int}:zac (vMx v):=by
 refine zac.pr (vMx_eq ..) ?_
 unfold bitM
 (with_reducible repeat' first|exact V.okI|refine V.brT ?_|refine V.brF ?_|refine V.brI ?_ ?_|refine zk ?_|refine nN_h rfl ?_|refine zd ?_ ?_|intro _)
 all_goals (simp only[decide_eq_true_eq,decide_eq_false_iff_not,Z,z7,za,ge_iff_le,gt_iff_lt,zu,zf,zg,zb]at *)
 all_goals first
  | omega
  | (rw[if_pos (by omega)];rfl)
  | exact mk_eq ‹_› ‹_› ‹_›
  | trace_state
theorem vhRx{a b c d i:Int}(hd:d<=9223372036854775807):zac (vRx a b c d i):=by
 refine zac.pr (vRx_eq ..) ?_
 unfold zd7
 (with_reducible repeat' first|exact V.okI|refine V.brT ?_|refine V.brF ?_|refine V.brI ?_ ?_|refine zk ?_|refine nN_h rfl ?_|refine zd ?_ ?_|intro _)
 all_goals (simp only[decide_eq_true_eq,decide_eq_false_iff_not,Z,z7,za,ge_iff_le,gt_iff_lt,zu,zf,zg,zb]at *)
 all_goals first|omega|rfl|(rw[if_pos (by omega)];rfl)|(rw[if_neg (by omega)];rfl)|(rw[wu64 (by omega)];omega)|trace_state
noncomputable section
def xQr:List SV->Hp->Out (SV×Hp):=conCd fun c w l=>.need (okYn c.W c.L c.C c.T c.D c.H) (.leaf (quA (quN c.W c.L c.C c.D c.H w l),⟨[],2,fun _=>True⟩))
theorem xQr_ok:zab P fQw xQr:=conCd_ok fun c t k=>zah zak.nil fun h=>vhQx h
def xBr:List SV->Hp->Out (SV×Hp):=fun args H=>match args with
 | [.a [x0,x1,x2,x3,x4,x5,x6,x7,x8,.slc kP _ _ _ nP rP,.slc kU _ _ _ nU cU],.c w]=>match numsC [x0,x1,x2,x3,x4,x5,x6,x7,x8,w]with
  | some [W,L,C,T,D,h,B,A,Q,w]=>fN kP fun kP=>fN kU fun kU=>useP [kP,kU] 2 [argD (cfN W L C T D h B A Q nP.v rP.v nU.v cU.v),iv w] hD (.need (okYn W L C T D h) (.leaf (.c (.iv .i64 (bmN W C h w)),⟨[],2,fun _=>True⟩))) args H
  | _=>.bad 452
 | _=>.bad 453
theorem xBr_ok:zab P fRm xBr:=zad fun args H=>by
 unfold xBr
 simp only[fN_eq]
 repeat' split
 all_goals first
  | exact .inl ⟨_,rfl⟩
  | exact .inr ⟨_,_,_,_,_,rfl,zah (sv:=.c (.iv .i64 (bmN _ _ _ _))) zak.nil fun h=>vhBx (c:=cfN _ _ _ _ _ _ _ _ _ _ _ _ _) h⟩
def xMk:List SV->Hp->Out (SV×Hp):=fun args H=>match nums args with
 | some [v]=>useP [] 0 [iv v] [] (.need True (.leaf (.c (.iv .u64 (bitM v)),⟨[],0,fun _=>True⟩))) args H
 | _=>.bad 484
theorem xMk_ok:zab P fMk xMk:=zad fun args H=>by
 unfold xMk
 repeat' split
 all_goals first|exact .inl ⟨_,rfl⟩|exact .inr ⟨_,_,_,_,_,rfl,zah zh4 fun h=>vhMx⟩
def xRg:List SV->Hp->Out (SV×Hp):=fun args H=>match args with
 | [.a [x0,x1,x2,x3],.c i]=>match numsC [x0,x1,x2,x3,i]with
  | some [a,b,c,d,i]=>useP [] 0 [.a [i6 a,i6 b,i6 c,i6 d],.c (uw i)] [] (.need (d<=9223372036854775807) (.leaf (.c (.iv .i64 (zd7 c d i)),⟨[],0,fun _=>True⟩))) args H
  | _=>.bad 484
 | _=>.bad 484
theorem xRg_ok:zab P fRg xRg:=zad fun args H=>by
 unfold xRg
 repeat' split
 all_goals first|exact .inl ⟨_,rfl⟩|exact .inr ⟨_,_,_,_,_,rfl,zah zak.nil fun h=>vhRx h⟩
end
theorem vhLb{y:Ly}{w:Int}(h:okYn y.W y.L y.C y.T y.D y.H/\y.bm=4+y.H+y.C+y.W):zac (vLb y w):=by
 obtain⟨⟨hW,hL,hC,hT,hD,hH⟩,hy⟩:=h
 refine zac.pr (vLb_eq ..) ?_
 unfold bmN
 by_cases hw:w<0\/y.W<=w
 ·rw[tk_m hw]
  (with_reducible repeat' first|exact V.okI|refine V.brT ?_|refine V.brF ?_|refine V.brI ?_ ?_|refine zk ?_|refine nN_h rfl ?_|refine zd ?_ ?_|intro _)
  all_goals (simp only[decide_eq_true_eq,decide_eq_false_iff_not,Z,z7,za,ge_iff_le,gt_iff_lt,zu,zf,zg,zb]at *)
  all_goals first|omega|rfl|trace_state
 ·rw[tk_p hw]
  have e2:i64.wrap (w*O 1)=w*1:=w64 (by simp only[Z];omega)
  have e3:i64.wrap (y.bm+w*1)=y.bm+w*1:=w64 (by omega)
  simp only[e2,e3]
  (with_reducible repeat' first|exact V.okI|refine V.brT ?_|refine V.brF ?_|refine V.brI ?_ ?_|refine zk ?_|refine nN_h rfl ?_|refine zd ?_ ?_|intro _)
  all_goals (simp only[decide_eq_true_eq,decide_eq_false_iff_not,Z,z7,za,ge_iff_le,gt_iff_lt,zu,zf,zg,zb]at *)
  all_goals first|omega|rfl|trace_state
noncomputable section
def xBl:List SV->Hp->Out (SV×Hp):=numF fLb fun l=>match l with
 | [a,b,c,d,e,f,g,h,i,j,k,w]=>useP [] 0 [.a (Ly.mk a b c d e f g h i j k).l,iv w] [] (.need (okYn a b c d e f/\i=4+f+c+a) (.leaf (.c (.iv .i64 (bmN a c f w)),⟨[],0,fun _=>True⟩)))
 | _=>fun _ _=>.bad 484
theorem xBl_ok:zab P fLb xBl:=zel fun l args H=>by
 repeat' split
 all_goals first|exact .inl ⟨_,rfl⟩|exact .inr ⟨_,_,_,_,_,rfl,zah zak.nil fun h=>vhLb (y:=Ly.mk _ _ _ _ _ _ _ _ _ _ _) h⟩
theorem lys{y:Ly}(h:okYn y.W y.L y.C y.T y.D y.H/\y.qu=lQn y.W y.C y.H):y.small:=by
 obtain⟨⟨hW,hL,hC,hT,hD,hH⟩,hy⟩:=h
 unfold lQn at hy
 exact⟨by omega,by omega,by omega,by omega⟩
theorem quN_e{y:Ly}{w l:Int}(h:y.qu=lQn y.W y.C y.H):quM y w l=quN y.W y.L y.C y.D y.H w l:=by unfold quM quN;rw[h]
def xQu:List SV->Hp->Out (SV×Hp):=numF fQu fun r=>match r with
 | [a,b,c,d,e,f,g,h,i,j,k,w,l]=>useP [] 0 [.a (Ly.mk a b c d e f g h i j k).l,iv w,iv l] [] (.need (okYn a b c d e f/\j=lQn a c f) (.leaf (quA (quN a b c e f w l),⟨[],0,fun _=>True⟩)))
 | _=>fun _ _=>.bad 484
theorem xQu_ok:zab P fQu xQu:=zel fun l args H=>by
 repeat' split
 all_goals first
  | exact .inl ⟨_,rfl⟩
  | exact .inr ⟨_,_,_,_,_,rfl,(zae (pre:=okYn _ _ _ _ _ _/\_) zak.nil fun h=>vhQuT (y:=Ly.mk _ _ _ _ _ _ _ _ _ _ _) (lys h)).mono fun K hK=>⟨hK.1,⟨_,rfl⟩,fun q hq=>by subst hq;rw[quN_e hK.1.2];exact hK.2⟩⟩
def xBit:List SV->Hp->Out (SV×Hp):=numF fBit fun l=>match l with
 | [n]=>useP [] 0 [iv n] [] (outX .u64 True (bitM n))
 | _=>fun _ _=>.bad 484
def xCell:List SV->Hp->Out (SV×Hp):=numF fCell fun l=>match l with
 | [a,b,c,d,i]=>useP [] 0 [.a [i6 a,i6 b,i6 c,i6 d],.c (uw i)] [] (outX .i64 (d<=9223372036854775807) (zd7 c d i))
 | _=>fun _ _=>.bad 484
theorem xBit_ok:zab P fBit xBit:=zel fun l args H=>by
 repeat' split
 all_goals first|exact .inl ⟨_,rfl⟩|exact .inr ⟨_,_,_,_,_,rfl,bare (zae zak.nil fun _=>vhBit)⟩
theorem xCell_ok:zab P fCell xCell:=zel fun l args H=>by
 repeat' split
 all_goals first|exact .inl ⟨_,rfl⟩|exact .inr ⟨_,_,_,_,_,rfl,bare (zae zak.nil fun h=>vhCell h)⟩
end
noncomputable section
def conBx:Con:=Con.add fBt cRBit con0
theorem conBx_ok:zak P conBx:=.add cRBit_ok zak.nil
def vHx(x:Int):V:=verF P conBx 3 6 fHi [] (.loop Int [] (fun _=>some ⟨[],fun _=>[],[3],fun i=>[iv i],intT 3,fun i=>(-1<=i/\i<=63)/\x.toNat<2 ^ (i+1).toNat,fun i=>(i+1).toNat⟩) .nil .nil) [.c (uw x)] ⟨[],0,fun _=>True⟩ (fin1 0 (.c (.iv .i64 (hiB x))))
def fHw:FuncId:=181
def conLx:Con:=Con.add 185 conLen con0
theorem conLx_ok:zak P conLx:=.add conLen_ok zak.nil
def vHw(x:Int):V:=verF P conLx 3 6 fHw [] .nil [.c (uw x)] ⟨[],0,fun _=>True⟩ (fin1 0 (.c (.iv .i64 (hiB x))))
end
theorem vHx_eq(x:Int):V.pr .z (vHx x)=
 U ((-O 1<=O 63/\O 63<=O 63)/\x.toNat<18446744073709551616)
  (nN [(1,.eqI 63 63)]
  (V.any Int (fun (i:Int)=>(-O 1<=i/\i<=O 63)/\x.toNat<2 ^ (i+O 1).toNat) fun (x_1:Int)=>V.br (decide (x_1 >= O 0))
  (nN [qE x,qE x_1]
  (U ((O 0<=x/\x<=O 18446744073709551615)/\O 0<=x_1/\x_1<=O 63)
  (nN [qX (bitB x x_1)]
  (V.any Bool (fun (b:Bool)=>b=bitB x x_1) fun (x_2:Bool)=>V.br x_2
  (U True
  (U (x_1=hiB x) zx))
  (U ((-O 1<=i64.wrap (x_1-O 1)/\i64.wrap (x_1-O 1)<=O 63)/\x.toNat<2 ^ (i64.wrap (x_1-O 1)+O 1).toNat)
  (U ((i64.wrap (x_1-O 1)+O 1).toNat<(x_1+O 1).toNat)
  (nN [qE (i64.wrap (x_1-O 1))] zx)))))))
  (U True
  (U (Int.negSucc 0=hiB x) zx)))):=by kernel_rfl
theorem vHw_eq(x:Int):V.pr .z (vHw x)=
 U (O 0<=x/\x<=O 18446744073709551615)
  (U True
  (U (i64.wrap ((↑(Lib.bitLen x.toNat):Int)-O 1)=hiB x) zx)):=by kernel_rfl
theorem hi_b{x:Int}{k:Nat}(h0:0<=x/\x<=18446744073709551615)(hk:k<=63)(h:x.toNat<2 ^ (k+1))(hb:x.toNat / 2 ^ k % 2=1):hiB x=k:=by
 rw[Nat.pow_succ]at h
 have hp:0<2 ^ k:=Nat.pow_pos (by omega)
 have h3:x.toNat / 2 ^ k<2:=(Nat.div_lt_iff_lt_mul hp).2 (by omega)
 have h5:x.toNat / 2 ^ k=1:=by
  generalize x.toNat / 2 ^ k=q at *
  omega
 have h2:2 ^ k<=x.toNat:=by
  have:=(Nat.le_div_iff_mul_le hp).1 (Nat.le_of_eq h5.symm)
  omega
 have h4:=Lib.bitLen_shift k x.toNat h2 (Nat.lt_of_le_of_lt (show x.toNat<=18446744073709551615 by omega) (by decide))
 rw[h5,show Lib.bitLen 1=1 by decide]at h4
 unfold hiB
 rw[h4,w64 (by omega)]
 omega
theorem hi_q{q:Nat}(h:q<2)(hb:¬q % 2=1):q<1:=by omega
theorem hi_s{x:Int}{k:Nat}(h:x.toNat<2 ^ (k+1))(hb:¬x.toNat / 2 ^ k % 2=1):x.toNat<2 ^ k:=by
 rw[Nat.pow_succ]at h
 have hp:0<2 ^ k:=Nat.pow_pos (by omega)
 have h3:x.toNat / 2 ^ k<2:=(Nat.div_lt_iff_lt_mul hp).2 (by omega)
 have:=(Nat.div_lt_iff_lt_mul hp).1 (hi_q h3 hb)
 omega
def hI(x i:Int):Prop:=(-O 1<=i/\i<=O 63)/\x.toNat<2 ^ (i+O 1).toNat
section
variable {x i:Int} {b:Bool}
theorem hx_k(h:hI x i)(hd:decide (i >= O 0)=true):∃k:Nat,i=k/\k<=63/\x.toNat<2 ^ (k+1):=by
 have hd:i >= 0:=of_decide_eq_true hd
 have h1:(-1<=i/\i<=63)/\x.toNat<2 ^ (i+1).toNat:=h
 obtain⟨k,rfl⟩:∃k:Nat,i=k:=⟨i.toNat,by omega⟩
 have e:((k:Int)+1).toNat=k+1:=by omega
 rw[e]at h1
 exact⟨k,rfl,by omega,h1.2⟩
theorem hx_r(h0:0<=x/\x<=18446744073709551615)(h:hI x i)(hd:decide (i >= O 0)=true):(O 0<=x/\x<=O 18446744073709551615)/\O 0<=i/\i<=O 63:=⟨h0,of_decide_eq_true hd,h.1.2⟩
theorem hx_b(h0:0<=x/\x<=18446744073709551615)(h:hI x i)(hd:decide (i >= O 0)=true)(hb:b=bitB x i)(ht:b=true):i=hiB x:=by
 obtain⟨k,rfl,hk,h1⟩:=hx_k h hd
 rw[ht]at hb
 have hb:=of_decide_eq_true hb.symm
 rw[Int.toNat_natCast]at hb
 exact(hi_b h0 hk h1 hb).symm
theorem hx_s(h:hI x i)(hd:decide (i >= O 0)=true)(hb:b=bitB x i)(ht:b=false):hI x (i64.wrap (i-O 1))/\(i64.wrap (i-O 1)+O 1).toNat<(i+O 1).toNat:=by
 obtain⟨k,rfl,hk,h1⟩:=hx_k h hd
 rw[ht]at hb
 have hb:=of_decide_eq_false hb.symm
 rw[Int.toNat_natCast]at hb
 have h2:=hi_s h1 hb
 have e:i64.wrap ((k:Int)-O 1)=(k:Int)-1:=w64 (by simp only[Z];omega)
 rw[e]
 have e2:((k:Int)-1+O 1).toNat=k:=by simp only[Z];omega
 have e3:((k:Int)+O 1).toNat=k+1:=by simp only[Z];omega
 unfold hI
 rw[e2,e3]
 exact⟨⟨⟨by simp only[Z];omega,by simp only[Z];omega⟩,h2⟩,by omega⟩
theorem hx_0(h0:0<=x/\x<=18446744073709551615)(h:hI x i)(hd:decide (i >= O 0)=false):Int.negSucc 0=hiB x:=by
 have hd:¬i >= 0:=of_decide_eq_false hd
 have h1:(-1<=i/\i<=63)/\x.toNat<2 ^ (i+1).toNat:=h
 have e:(i+1).toNat=0:=by omega
 rw[e]at h1
 have h2:x.toNat<1:=h1.2
 have e:x=0:=by omega
 subst e
 decide
end
theorem vhHx{x:Int}(h0:0<=x/\x<=18446744073709551615):zac (vHx x):=by
 refine zac.pr (vHx_eq ..) ?_
 refine zd ⟨⟨by decide,by decide⟩,by omega⟩ (nN_h rfl (zk fun i hi=>?_))
 have hi:hI x i:=hi
 refine V.brI (fun hd=>nN_h rfl (zd (hx_r h0 hi hd) (nN_h rfl (zk fun b hb=>V.brI (fun ht=>zd trivial (zd (hx_b h0 hi hd hb ht) V.okI)) fun ht=>zd (hx_s hi hd hb ht).1 (zd (hx_s hi hd hb ht).2 (nN_h rfl V.okI)))))) fun hd=>zd trivial (zd (hx_0 h0 hi hd) V.okI)
theorem vhHw{x:Int}(h0:0<=x/\x<=18446744073709551615):zac (vHw x):=by
 refine zac.pr (vHw_eq ..) ?_
 (with_reducible repeat' first|exact V.okI|refine V.brT ?_|refine V.brF ?_|refine V.brI ?_ ?_|refine zk ?_|refine nN_h rfl ?_|refine zd ?_ ?_|intro _)
 all_goals first
  | exact h0
  | trivial
  | rfl
  | trace_state
noncomputable section
def xHi:List SV->Hp->Out (SV×Hp):=fun args H=>match nums args with
 | some [x]=>useP [] 0 [.c (uw x)] [] (.need (0<=x/\x<=18446744073709551615) (.leaf (.c (.iv .i64 (hiB x)),⟨[],0,fun _=>True⟩))) args H
 | _=>.bad 484
theorem xHi_ok:zab P fHi xHi:=zad fun args H=>by
 unfold xHi
 repeat' split
 all_goals first|exact .inl ⟨_,rfl⟩|exact .inr ⟨_,_,_,_,_,rfl,zah conBx_ok fun h=>vhHx h⟩
theorem xHw_ok:zab P fHw xHi:=zad fun args H=>by
 unfold xHi
 repeat' split
 all_goals first|exact .inl ⟨_,rfl⟩|exact .inr ⟨_,_,_,_,_,rfl,zah conLx_ok fun h=>vhHw h⟩
end
noncomputable section
def fLt:FuncId:=197
def vLt(y:Ly)(t k:Int):V:=verF P con0 4 8 fLt [] .nil [.a y.l,iv t,iv k] ⟨[],0,fun _=>True⟩ (fin1 0 (.c (.iv .i64 (tkN y.W y.L y.C y.T y.D y.H t k))))
end
theorem vLt_eq(y:Ly)(t k:Int):V.pr .z (vLt y t k)=
 V.br (decide (t<O 0))
  (U True
  (U (Int.negSucc 0=tkN y.W y.L y.C y.T y.D y.H t k) zx))
  (V.br (decide (t >= y.T))
  (U True
  (U (Int.negSucc 0=tkN y.W y.L y.C y.T y.D y.H t k) zx))
  (U True
  (U (i64.wrap (i64.wrap (y.tb+k)+i64.wrap (t*O 5))=tkN y.W y.L y.C y.T y.D y.H t k) zx))):=by kernel_rfl
theorem vhLt{y:Ly}{t k:Int}(h:okYn y.W y.L y.C y.T y.D y.H/\y.tb=lTn y.W y.L y.C y.D y.H/\0<=k/\k<=4):zac (vLt y t k):=by
 obtain⟨ok,hy,hk⟩:=h
 have hb:=(wy (c:=cfN y.W y.L y.C y.T y.D y.H 0 0 0 0 0 0 0) ok).t
 have hT:1<=y.T/\y.T<=256:=ok.2.2.2.1
 have hy:y.tb=lT (cfN y.W y.L y.C y.T y.D y.H 0 0 0 0 0 0 0):=hy
 rw[<-hy]at hb
 refine zac.pr (vLt_eq ..) ?_
 have e:tkN y.W y.L y.C y.T y.D y.H t k=atM t y.T (y.tb+k) 5:=by rw[hy];rfl
 rw[e]
 have e0:i64.wrap (y.tb+k)=y.tb+k:=w64 (by omega)
 by_cases ht:t<0\/y.T<=t
 ·rw[tk_m ht]
  (with_reducible repeat' first|exact V.okI|refine V.brT ?_|refine V.brF ?_|refine V.brI ?_ ?_|refine zk ?_|refine nN_h rfl ?_|refine zd ?_ ?_|intro _)
  all_goals (simp only[decide_eq_true_eq,decide_eq_false_iff_not,Z,z7,za,ge_iff_le,gt_iff_lt,zu,zf,zg,zb]at *)
  all_goals first|omega|rfl|trace_state
 ·rw[tk_p ht]
  have e1:i64.wrap (t*O 5)=t*5:=w64 (by simp only[Z];omega)
  have e2:i64.wrap (y.tb+k+t*5)=y.tb+k+t*5:=w64 (by omega)
  simp only[e0,e1,e2]
  (with_reducible repeat' first|exact V.okI|refine V.brT ?_|refine V.brF ?_|refine V.brI ?_ ?_|refine zk ?_|refine nN_h rfl ?_|refine zd ?_ ?_|intro _)
  all_goals (simp only[decide_eq_true_eq,decide_eq_false_iff_not,Z,z7,za,ge_iff_le,gt_iff_lt,zu,zf,zg,zb]at *)
  all_goals first|omega|rfl|trace_state
noncomputable section
def xLt:List SV->Hp->Out (SV×Hp):=numF fLt fun l=>match l with
 | [a,b,c,d,e,f,g,h,i,j,k,t,q]=>useP [] 0 [.a (Ly.mk a b c d e f g h i j k).l,iv t,iv q] [] (.need (okYn a b c d e f/\k=lTn a b c e f/\0<=q/\q<=4) (.leaf (.c (.iv .i64 (tkN a b c d e f t q)),⟨[],0,fun _=>True⟩)))
 | _=>fun _ _=>.bad 484
theorem xLt_ok:zab P fLt xLt:=zel fun l args H=>by
 repeat' split
 all_goals first|exact .inl ⟨_,rfl⟩|exact .inr ⟨_,_,_,_,_,rfl,zah zak.nil fun h=>vhLt (y:=Ly.mk _ _ _ _ _ _ _ _ _ _ _) h⟩
end
section
variable {m:Mm} {n:Nat}
theorem q_hit{c:Cf}{v:Ev}{t f w1 w2 w3 w4 w5 r:Int}(h:okMq c v)(hh:m.hit n (tkN w1 w2 w3 c.T w4 w5 t f) r=true):0<=t/\t<(v.x.n:Int):=by
 have h3:=h.2.1
 have h4:=h.1.2.2.2.1
 by_cases ht:t<0\/c.T<=t
 ·unfold Mm.hit tkN atM at hh
  rw[if_pos ht]at hh
  have hb:inb n (-1)=false:=zgr (by omega)
  simp[hb]at hh
 ·omega
theorem q_hitN{c:Cf}{v:Ev}{t f w1 w2 w3 w4 w5 r:Int}(h:okMq c v)(hh:m.hit n (tkN w1 w2 w3 c.T w4 w5 t f) r=true):0+t.toNat<v.x.n:=by have:=q_hit h hh;omega
end
def laN1(i:Nat)(s:St):Option (LA Int):=some ⟨[],fun _=>[],[i],fun x=>[iv x],tmI i,fun _=>True,fun _=>0⟩
section
variable {g:Nat->Int} {len n:Nat} {d c:Cf} {v:Ev} {l:Sc}
theorem dec_W(hu:U8 len g)(h:zcy g len d):d.W<=4/\d.H<=4/\d.nU<=900000:=by
 obtain⟨FC,rc,cu,-,rfl⟩:=h
 have h1:=dW_r hu
 have h2:=nU_le hu
 have h3:=dH_r hu
 exact⟨h1.2,h3.2,by show nU g len<=900000;omega⟩
theorem dec_pre(hu:U8 len g)(h:zcy g len d){q:Nat}(hl:okSc (O q) l)(hq:q<=1000):preEv d l.n:=by
 have h1:=dec_W hu h
 have h2:=hl.2
 simp only[Z]at h2
 exact⟨dec_err hu h,dec_okC hu h,h1.1,h1.2.2,by omega⟩
theorem dec_Y(hu:U8 len g)(h:zcy g len d):okY d:=okY_of (dec_err hu h)
theorem dec_mq(hu:U8 len g)(h:zcy g len d)(hv:okEv d v){c e:Cf}(hc:(c.W=d.W/\c.L=d.L/\c.C=d.C)/\c.T=d.T/\c.D=d.D/\c.H=d.H){now dr:Int}:okMq c ⟨e,v.n,v.m,v.x,now,dr,v.a,v.b⟩:=by
 obtain⟨-,v1,v2,v3,-,-,v6,v7,-,-,v8⟩:=hv
 have hn:=nc_4 (dec_Y hu h)
 rw[<-v1]at hn
 obtain⟨⟨e1,e2,e3⟩,e4,e5,e6⟩:=hc
 refine⟨?_,by rw[e4];exact v2,hn.1,hn.2,v3,v6,v7,v8.le (by omega)⟩
 unfold okY
 rw[e1,e2,e3,e4,e5,e6]
 exact dec_Y hu h
theorem dec_rc(h:zcy g len d):(d.nP<=d.nP/\d.nP<=d.rc)/\(d.nU<=d.nU/\d.nU<=d.cu):=by
 obtain⟨FC,rc,cu,⟨h1,h2,h3⟩,rfl⟩:=h
 exact⟨⟨zq _,h2⟩,zq _,h3⟩
theorem dec_gd(h:zcy g len d){i:Nat}(hi:i<d.nP):d.lenP i<=gd d.nP d.lenP i/\d.lenP i<=gd d.nP d.FC i:=by
 obtain⟨FC,rc,cu,⟨h1,h2,h3⟩,rfl⟩:=h
 unfold gd
 rw[if_pos hi,if_pos hi]
 exact⟨zq _,h1 i hi⟩
theorem s_len{l q k:Nat}(h:decide ((l:Int)>O q)=false)(hq:q<=1000):l<=1000000/\O 0<=O k:=by
 have:=of_decide_eq_false h
 simp only[Z]at this ⊢
 omega
theorem ex_dec(hu:U8 len g):∃d,zcy g len d:=⟨_,fun e=>lenP g len e,nP g len,nU g len,⟨fun _ _=>zq _,zq _,zq _⟩,rfl⟩
theorem ex_sc{q:Nat}:∃l,okSc (O q) l:=⟨⟨0,0,fun _=>0,fun _=>0⟩,zq _,Int.natCast_nonneg q⟩
end
end Go.Proofs.YtjgldffneablmaaGreat.En
