/- Two machines step by step: what all laws have in common. -/
import Derived.Test.YtjiljajegheilaaGreatMEnI
import Derived.Test.YtjiljajegheilaaGreatMV
import Derived.Test.YtjiljajegheilaaGreatMEg
import Derived.Test.YtjiljajegheilaaGreatMW
import Derived.Test.YtjiljajegheilaaGreatMNw
import Derived.Test.YtjiljajegheilaaGreatMMd
set_option linter.unusedVariables false
set_option linter.unusedSimpArgs false
set_option maxRecDepth 100000
open Go.IntKind (i64 u64)
open Int renaming ofNat -> O, ofNat_eq_natCast -> zz
open Nat renaming le_refl -> Z
open Bool renaming not_eq_false' -> z9, and_eq_false_iff -> zb
open Go.Proofs.YtjiljajegheilaaGreat.Sx.V renaming need -> U
namespace Go.Proofs.YtjiljajegheilaaGreat.En
open Go Go.RowKit Sx Cn Dc Ck Vc Md
noncomputable section
def frABD (k:Nat) (h:HL):Option (Int×Int×Int×Int×Nat):=match find k h with
 | some (.row _ c _ (.ck [.ki _ n]::_::_::_::_::_::.ck [a]::.ck [b]::.ck [d]::_))=>match numC a,numC b,numC d with
  | some x,some y,some z=>some (n,x,y,z,c)
  | _,_,_=>none
 | _=>none
end
/-! ### What holds of a round -/
def okMq (c:Cf) (v:Ev):Prop:=okY c/\v.x.n=c.T.toNat/\4<=v.n/\v.n<=1000000/\okRk v.x/\v.n<=v.a.c/\v.n<=v.b.c/\okMw 2000000 v.m
section
variable {s:Int} {m x:Mm} {n:Nat} {k a y:Int}
theorem q_cm {c:Cf} {v:Ev} (h:okMq c v) {now:Int} {e:Evs}:okCm ⟨v.n,m,now,v.x,0,e⟩:=⟨h.2.2.2.1,h.2.2.2.2.1,Nat.zero_le _⟩
theorem q_ka {c:Cf} {v:Ev} (h:okMq c v):v.n<=v.n/\v.n<=v.a.c:=⟨Z _,h.2.2.2.2.2.1⟩
theorem q_kb {c:Cf} {v:Ev} (h:okMq c v):v.n<=v.n/\v.n<=v.b.c:=⟨Z _,h.2.2.2.2.2.2.1⟩
theorem q_yk {c:Cf} {v:Ev} (h:okMq c v) {k:Nat} (hk:k<=4):(okY c)/\0<=O k/\O k<=4:=⟨h.1,Int.natCast_nonneg _,by simp only [zz]; omega⟩
theorem q_nf {b:Bool} (h:(!b)=false):b=true:=by cases b with | true=>rfl | false=>cases h
theorem q_if {α:Type} {i e q r:Nat} {b d:α} (h:i=0/\e < r):(if i=0/\e=q then b else d)=if 0=0/\e=q then b else d:=by rw [h.1]
theorem q_same {i e q:Nat} {f:Nat->Bool} (h:f q=true):(if i=0/\e=q then true else f e)=f e:=by
 split
 ·rename_i g; rw [g.2,h]
 ·rfl
theorem q_cm1 {c:Cf} {v:Ev} (h:okMq c v) {now:Int} {e:Evs} {st:Nat->Bool} {ne:Nat} (hn:ne<=1000000):okCm ⟨v.n,m,now,⟨v.x.n,v.x.p,v.x.pa,v.x.pc,v.x.lf,v.x.wt,v.x.kl,v.x.kd,st⟩,ne,e⟩:=⟨h.2.2.2.1,h.2.2.2.2.1,hn⟩
theorem q_ctv {c:Cf} {v:Ev} (h:okMq c v) (hx:x=v.m.acc n k a y):decide (x.ct > i64.wrap (v.m.ct+O 1))=false:=by
 cases hb:decide (x.ct > i64.wrap (v.m.ct+O 1)) with
 | false=>rfl
 | true=>exact (ct_no h.2.2.2.2.2.2.2 (by omega) hb hx).elim
end
end Go.Proofs.YtjiljajegheilaaGreat.En
/- The cells of tasks, answered alike by both sides; what is asked. -/
namespace Go.Proofs.YtjiljajegheilaaGreat.En
open Go Go.RowKit Sx Cn Dc Ck Vc Md
def okYn (W L C T D H:Int):Prop:=(1<=W/\W<=16)/\(1<=L/\L<=64)/\(1<=C/\C<=8)/\(1<=T/\T<=256)/\(1<=D/\D<=64)/\(1<=H/\H<=64)
def lQn (W C H:Int):Int:=4+H+C+W+W
def lTn (W L C D H:Int):Int:=lQn W C H+W * L * (2+D)
def tkN (W L C T D H t k:Int):Int:=atM t T (lTn W L C D H+k) 5
noncomputable section
def cfN (W L C T D H B A Q:Int) (nP rP nU cU:Nat):Cf:=⟨W,L,C,T,D,H,B,A,Q,nP,rP,nU,cU,fun _=>0,fun _=>0,fun _ _=>0,fun _ _=>0,fun _ _=>0,fun _=>0,fun _=>0,fun _=>0⟩
def hD:HL:=[(0,dum 1),(1,dum 3)]
def argD (c:Cf):SV:=.a (cfL 0 1 c)
def conCd (post:Cf->Int->Int->Out (SV×Hp)):List SV->Hp->Out (SV×Hp):=fun args H=>match args with
 | [.a [x0,x1,x2,x3,x4,x5,x6,x7,x8,.slc kP _ _ _ nP rP,.slc kU _ _ _ nU cU],.c w,.c v]=>match numsC [x0,x1,x2,x3,x4,x5,x6,x7,x8,w,v] with
  | some [W,L,C,T,D,h,B,A,Q,w,v]=>fN kP fun kP=>fN kU fun kU=>useP [kP,kU] 2 [argD (cfN W L C T D h B A Q nP.v rP.v nU.v cU.v),iv w,iv v] hD (post (cfN W L C T D h B A Q nP.v rP.v nU.v cU.v) w v) args H
  | _=>.bad 452
 | _=>.bad 453
theorem conCd_ok {f:FuncId} {post:Cf->Int->Int->Out (SV×Hp)} (h:∀ c w v,zah P f [argD c,iv w,iv v] hD 2 (post c w v)):zab P f (conCd post):=zac fun args H=>by
 unfold conCd
 simp only [fN_eq]
 repeat' split
 all_goals first
  | exact .inl ⟨_,rfl⟩
  | exact .inr ⟨_,_,_,_,_,rfl,h _ _ _⟩
def vTx (c:Cf) (t k:Int):V:=verF P con0 4 8 fTw [] .nil [argD c,iv t,iv k] ⟨hD,2,fun _=>True⟩ (fin1 2 (.c (.iv .i64 (tkN c.W c.L c.C c.T c.D c.H t k))))
end
end Go.Proofs.YtjiljajegheilaaGreat.En
/- The program's cells of tasks; what is asked. -/
namespace Go.Proofs.YtjiljajegheilaaGreat.En
open Go Go.RowKit Sx Cn Dc Ck Vc Md
noncomputable section
def fLt:FuncId:=174
def vLt (y:Ly) (t k:Int):V:=verF P con0 4 8 fLt [] .nil [.a y.l,iv t,iv k] ⟨[],0,fun _=>True⟩ (fin1 0 (.c (.iv .i64 (tkN y.W y.L y.C y.T y.D y.H t k))))
end
end Go.Proofs.YtjiljajegheilaaGreat.En
/- The program's cells of tasks: the conditions, printed by program. -/
namespace Go.Proofs.YtjiljajegheilaaGreat.En
open Go Go.RowKit Sx Cn Dc Ck Vc Md
theorem vLt_eq (y:Ly) (t k:Int):V.pr .z (vLt y t k)=
 V.br (decide (t < O 0)) (U True (U (Int.negSucc 0=tkN y.W y.L y.C y.T y.D y.H t k) (V.ok))) (V.br (decide (t >= y.T)) (U True (U (Int.negSucc 0=tkN y.W y.L y.C y.T y.D y.H t k) (V.ok))) (U True (U (i64.wrap (i64.wrap (y.tb+k)+i64.wrap (t * O 5))=tkN y.W y.L y.C y.T y.D y.H t k) V.ok))):=by kernel_rfl
end Go.Proofs.YtjiljajegheilaaGreat.En
/- Cells of tasks: the conditions, printed by program. -/
namespace Go.Proofs.YtjiljajegheilaaGreat.En
open Go Go.RowKit Sx Cn Dc Ck Vc Md
theorem vTx_eq (c:Cf) (t k:Int):V.pr .z (vTx c t k)=
 nN [(19,.lt2 0 1 0 1)] (V.br (decide (t < O 0)) (U True (U (Int.negSucc 0=tkN c.W c.L c.C c.T c.D c.H t k) (V.ok))) (V.br (decide (t >= c.T)) (U True (U (Int.negSucc 0=tkN c.W c.L c.C c.T c.D c.H t k) (V.ok))) (V.br (decide (i64.wrap (i64.wrap (i64.wrap (i64.wrap (i64.wrap (O 4+c.H)+c.C)+i64.wrap (O 2 * c.W))+i64.wrap (i64.wrap (c.W * c.L) * i64.wrap (O 2+c.D)))+i64.wrap (t * O 5)) < O 0)) (U True (U (Int.negSucc 0=tkN c.W c.L c.C c.T c.D c.H t k) (V.ok))) (U True (U (i64.wrap (i64.wrap (i64.wrap (i64.wrap (i64.wrap (i64.wrap (O 4+c.H)+c.C)+i64.wrap (O 2 * c.W))+i64.wrap (i64.wrap (c.W * c.L) * i64.wrap (O 2+c.D)))+i64.wrap (t * O 5))+k)=tkN c.W c.L c.C c.T c.D c.H t k) V.ok))))):=by kernel_rfl
end Go.Proofs.YtjiljajegheilaaGreat.En
/- The cells of tasks, answered alike by both sides: the contract of the reference's. -/
namespace Go.Proofs.YtjiljajegheilaaGreat.En
open Go Go.RowKit Sx Cn Dc Ck Vc Md
theorem lQ_x {c:Cf} (ok:okY c):i64.wrap (i64.wrap (i64.wrap (O 4+c.H)+c.C)+i64.wrap (O 2 * c.W))=lQ c:=by
 have W:=wy ok
 simp only [zz,Int.cast_ofNat_Int]
 rw [W.w1,W.w2,W.w3,W.w4]
theorem lT_x {c:Cf} (ok:okY c):i64.wrap (lQ c+i64.wrap (i64.wrap (c.W * c.L) * i64.wrap (O 2+c.D)))=lT c:=by
 have W:=wy ok
 simp only [zz,Int.cast_ofNat_Int]
 rw [W.w5,W.w6,W.w7,W.w8]
theorem tk_m {n t k f:Int} (h:t < 0\/n<=t):atM t n f k=-1:=by unfold atM; rw [if_pos h]
theorem tk_p {n t k f:Int} (h:¬ (t < 0\/n<=t)):atM t n f k=f+t * k:=by unfold atM; rw [if_neg h]
theorem vhTx {c:Cf} {t k:Int} (h:okY c/\0<=k/\k<=4):zae (vTx c t k):=by
 obtain ⟨ok,hk⟩:=h
 have hb:=(wy ok).t
 have hT:1<=c.T/\c.T<=256:=ok.2.2.2.1
 refine zae.pr (vTx_eq ..) ?_
 simp only [lQ_x ok,lT_x ok]
 have e:tkN c.W c.L c.C c.T c.D c.H t k=atM t c.T (lT c+k) 5:=rfl
 rw [e]
 by_cases ht:t < 0\/c.T<=t
 ·rw [tk_m ht]
  (with_reducible repeat' first | exact V.okI | refine V.brT ?_ | refine V.brF ?_ | refine V.brI ?_ ?_ | refine V.anyI ?_ | refine nN_h rfl ?_ | refine V.needI ?_ ?_ | intro _)
  all_goals (simp only [decide_eq_true_eq,decide_eq_false_iff_not,zz,Bool.not_eq_true',z9,ge_iff_le,gt_iff_lt,Bool.and_eq_true,Bool.or_eq_true,Bool.not_eq_true,zb] at *)
  all_goals first | omega | rfl | trace_state
 ·rw [tk_p ht]
  have e1:i64.wrap (t * O 5)=t * 5:=w64 (by simp only [zz]; omega)
  have e2:i64.wrap (lT c+t * 5)=lT c+t * 5:=w64 (by omega)
  have e3:i64.wrap (lT c+t * 5+k)=lT c+t * 5+k:=w64 (by omega)
  simp only [e1,e2,e3]
  (with_reducible repeat' first | exact V.okI | refine V.brT ?_ | refine V.brF ?_ | refine V.brI ?_ ?_ | refine V.anyI ?_ | refine nN_h rfl ?_ | refine V.needI ?_ ?_ | intro _)
  all_goals (simp only [decide_eq_true_eq,decide_eq_false_iff_not,zz,Bool.not_eq_true',z9,ge_iff_le,gt_iff_lt,Bool.and_eq_true,Bool.or_eq_true,Bool.not_eq_true,zb] at *)
  all_goals first | omega | rfl | trace_state
noncomputable section
def xTk:List SV->Hp->Out (SV×Hp):=conCd fun c t k=>.need (okYn c.W c.L c.C c.T c.D c.H/\0<=k/\k<=4) (.leaf (.c (.iv .i64 (tkN c.W c.L c.C c.T c.D c.H t k)),⟨[],2,fun _=>True⟩))
theorem xTk_ok:zab P fTw xTk:=conCd_ok fun c t k=>zai zaj.nil fun h=>vhTx h
end
end Go.Proofs.YtjiljajegheilaaGreat.En
/- The program's cells of tasks: the contract. -/
namespace Go.Proofs.YtjiljajegheilaaGreat.En
open Go Go.RowKit Sx Cn Dc Ck Vc Md
theorem vhLt {y:Ly} {t k:Int} (h:okYn y.W y.L y.C y.T y.D y.H/\y.tb=lTn y.W y.L y.C y.D y.H/\0<=k/\k<=4):zae (vLt y t k):=by
 obtain ⟨ok,hy,hk⟩:=h
 have hb:=(wy (c:=cfN y.W y.L y.C y.T y.D y.H 0 0 0 0 0 0 0) ok).t
 have hT:1<=y.T/\y.T<=256:=ok.2.2.2.1
 have hy:y.tb=lT (cfN y.W y.L y.C y.T y.D y.H 0 0 0 0 0 0 0):=hy
 rw [<- hy] at hb
 refine zae.pr (vLt_eq ..) ?_
 have e:tkN y.W y.L y.C y.T y.D y.H t k=atM t y.T (y.tb+k) 5:=by rw [hy]; rfl
 rw [e]
 have e0:i64.wrap (y.tb+k)=y.tb+k:=w64 (by omega)
 by_cases ht:t < 0\/y.T<=t
 ·rw [tk_m ht]
  (with_reducible repeat' first | exact V.okI | refine V.brT ?_ | refine V.brF ?_ | refine V.brI ?_ ?_ | refine V.anyI ?_ | refine nN_h rfl ?_ | refine V.needI ?_ ?_ | intro _)
  all_goals (simp only [decide_eq_true_eq,decide_eq_false_iff_not,zz,Bool.not_eq_true',z9,ge_iff_le,gt_iff_lt,Bool.and_eq_true,Bool.or_eq_true,Bool.not_eq_true,zb] at *)
  all_goals first | omega | rfl | trace_state
 ·rw [tk_p ht]
  have e1:i64.wrap (t * O 5)=t * 5:=w64 (by simp only [zz]; omega)
  have e2:i64.wrap (y.tb+k+t * 5)=y.tb+k+t * 5:=w64 (by omega)
  simp only [e0,e1,e2]
  (with_reducible repeat' first | exact V.okI | refine V.brT ?_ | refine V.brF ?_ | refine V.brI ?_ ?_ | refine V.anyI ?_ | refine nN_h rfl ?_ | refine V.needI ?_ ?_ | intro _)
  all_goals (simp only [decide_eq_true_eq,decide_eq_false_iff_not,zz,Bool.not_eq_true',z9,ge_iff_le,gt_iff_lt,Bool.and_eq_true,Bool.or_eq_true,Bool.not_eq_true,zb] at *)
  all_goals first | omega | rfl | trace_state
noncomputable section
def xLt:List SV->Hp->Out (SV×Hp):=numF fLt fun l=>match l with
 | [a,b,c,d,e,f,g,h,i,j,k,t,q]=>useP [] 0 [.a (Ly.mk a b c d e f g h i j k).l,iv t,iv q] [] (.need (okYn a b c d e f/\k=lTn a b c e f/\0<=q/\q<=4) (.leaf (.c (.iv .i64 (tkN a b c d e f t q)),⟨[],0,fun _=>True⟩)))
 | _=>fun _ _=>.bad 484
theorem xLt_ok:zab P fLt xLt:=numF_ok fun l args H=>by
 repeat' split
 all_goals first | exact .inl ⟨_,rfl⟩ | exact .inr ⟨_,_,_,_,_,rfl,zai zaj.nil fun h=>vhLt (y:=Ly.mk _ _ _ _ _ _ _ _ _ _ _) h⟩
end
end Go.Proofs.YtjiljajegheilaaGreat.En
/- Cells of tasks: what holds of rounds. -/
namespace Go.Proofs.YtjiljajegheilaaGreat.En
open Go Go.RowKit Sx Cn Dc Ck Vc Md
section
variable {m:Mm} {n:Nat}
theorem q_hit {c:Cf} {v:Ev} {t f w1 w2 w3 w4 w5 r:Int} (h:okMq c v) (hh:m.hit n (tkN w1 w2 w3 c.T w4 w5 t f) r=true):0<=t/\t < (v.x.n:Int):=by
 have h3:=h.2.1
 have h4:=h.1.2.2.2.1
 by_cases ht:t < 0\/c.T<=t
 ·unfold Mm.hit tkN atM at hh
  rw [if_pos ht] at hh
  have hb:inb n (-1)=false:=inb_f (by omega)
  simp [hb] at hh
 ·omega
theorem q_hitN {c:Cf} {v:Ev} {t f w1 w2 w3 w4 w5 r:Int} (h:okMq c v) (hh:m.hit n (tkN w1 w2 w3 c.T w4 w5 t f) r=true):0+t.toNat < v.x.n:=by have:=q_hit h hh; omega
end
end Go.Proofs.YtjiljajegheilaaGreat.En
/- Laws over Envs and Match: what they all ask. -/
namespace Go.Proofs.YtjiljajegheilaaGreat.En
open Go Go.RowKit Sx Cn Dc Ck Vc Md
def laN1 (i:Nat) (s:St):Option (LA Int):=some ⟨[],fun _=>[],[i],fun x=>[iv x],tmI i,fun _=>True,fun _=>0⟩
section
variable {g:Nat->Int} {len n:Nat} {d c:Cf} {v:Ev} {l:Sc}
theorem dec_W (hu:U8 len g) (h:zco g len d):d.W<=4/\d.H<=4/\d.nU<=900000:=by
 obtain ⟨FC,rc,cu,-,rfl⟩:=h
 have h1:=dW_r hu
 have h2:=nU_le hu
 have h3:=dH_r hu
 exact ⟨h1.2,h3.2,by show nU g len<=900000; omega⟩
theorem dec_pre (hu:U8 len g) (h:zco g len d) {q:Nat} (hl:okSc (O q) l) (hq:q<=1000):preEv d l.n:=by
 have h1:=dec_W hu h
 have h2:=hl.2
 simp only [zz] at h2
 exact ⟨dec_err hu h,dec_okC hu h,h1.1,h1.2.2,by omega⟩
theorem dec_Y (hu:U8 len g) (h:zco g len d):okY d:=okY_of (dec_err hu h)
theorem dec_mq (hu:U8 len g) (h:zco g len d) (hv:okEv d v) {c e:Cf} (hc:(c.W=d.W/\c.L=d.L/\c.C=d.C)/\c.T=d.T/\c.D=d.D/\c.H=d.H) {now dr:Int}:okMq c ⟨e,v.n,v.m,v.x,now,dr,v.a,v.b⟩:=by
 obtain ⟨-,v1,v2,v3,-,-,v6,v7,-,-,v8⟩:=hv
 have hn:=nc_4 (dec_Y hu h)
 rw [<- v1] at hn
 obtain ⟨⟨e1,e2,e3⟩,e4,e5,e6⟩:=hc
 refine ⟨?_,by rw [e4]; exact v2,hn.1,hn.2,v3,v6,v7,v8.le (by omega)⟩
 unfold okY
 rw [e1,e2,e3,e4,e5,e6]
 exact dec_Y hu h
theorem dec_rc (h:zco g len d):(d.nP<=d.nP/\d.nP<=d.rc)/\(d.nU<=d.nU/\d.nU<=d.cu):=by
 obtain ⟨FC,rc,cu,⟨h1,h2,h3⟩,rfl⟩:=h
 exact ⟨⟨Z _,h2⟩,Z _,h3⟩
theorem dec_gd (h:zco g len d) {i:Nat} (hi:i < d.nP):d.lenP i<=gd d.nP d.lenP i/\d.lenP i<=gd d.nP d.FC i:=by
 obtain ⟨FC,rc,cu,⟨h1,h2,h3⟩,rfl⟩:=h
 unfold gd
 rw [if_pos hi,if_pos hi]
 exact ⟨Z _,h1 i hi⟩
theorem s_len {l q k:Nat} (h:decide ((l:Int) > O q)=false) (hq:q<=1000):l<=1000000/\O 0<=O k:=by
 have:=of_decide_eq_false h
 simp only [zz] at this ⊢
 omega
theorem ex_dec (hu:U8 len g):∃ d,zco g len d:=⟨_,fun e=>lenP g len e,nP g len,nU g len,⟨fun _ _=>Z _,Z _,Z _⟩,rfl⟩
theorem ex_sc {q:Nat}:∃ l,okSc (O q) l:=⟨⟨0,0,fun _=>0,fun _=>0⟩,Z _,Int.natCast_nonneg q⟩
end
end Go.Proofs.YtjiljajegheilaaGreat.En
