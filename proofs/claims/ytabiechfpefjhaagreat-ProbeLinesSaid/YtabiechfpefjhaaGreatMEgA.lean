/- A part of the proof. -/
import Derived.Test.YtabiechfpefjhaaGreatMEn
import Derived.Test.YtabiechfpefjhaaGreatMEnI
import Derived.Test.YtabiechfpefjhaaGreatMMdBit
import Derived.Test.YtabiechfpefjhaaGreatMW
import Derived.Test.YtabiechfpefjhaaGreatMV
import Derived.Test.YtabiechfpefjhaaGreatMMd
set_option maxHeartbeats 64000000
set_option linter.unusedVariables false
set_option linter.unusedSimpArgs false
set_option maxRecDepth 100000
open Go.IntKind (i64 u64)
open Int renaming ofNat -> O, ofNat_eq_natCast -> zz, natCast_nonneg -> zp
open Nat renaming le_refl -> Z, zero_le -> zh, zero_add -> z8, le_trans -> zo
open Bool renaming and_eq_true -> zx, not_eq_true' -> z7, not_eq_false' -> za, or_eq_true -> zf, not_eq_true -> zg, and_eq_false_iff -> zd
open Go.Proofs.YtabiechfpefjhaaGreat.Sx.V renaming need -> U, br -> zj, ok -> zw, any -> ze, needI -> z9, okI -> zk, brT -> zn, brF -> zm, brI -> zl, anyI -> zi
namespace Go.Proofs.YtabiechfpefjhaaGreat.En
open Go Go.RowKit Sx Cn Dc Ck Vc Md
noncomputable section
def finB(φ:Bool->Prop):SV->Hp->V:=finV (X:=Bool) 0 0 (fun s _=>(asB s).map fun r=>r.2) (fun _ _=>[]) φ (fun b=>.c (.bv b)) (fun _=>[])
def fBt:FuncId:=113
def vBt(x v:Int):V:=verF P conPw 3 6 fBt [] .nil [.c (uw x),iv v] ⟨[],0,fun _=>True⟩ (finB fun _=>True)
def fMk:FuncId:=77
def vMk(v:Int):V:=verF P conPw 3 6 fMk [] .nil [iv v] ⟨[],0,fun _=>True⟩ (finI .u64 fun r=>0<=r/\r<=18446744073709551615)
def cBt:List SV->Hp->Out (SV×Hp):=fun args H=>match nums args with
 | some [x,v]=>useP [] 0 [.c (uw x),iv v] [] (.need True (.any Bool (fun _=>True) fun b=>.leaf (.c (.bv b),⟨[],0,fun _=>True⟩))) args H
 | _=>.bad 484
def conBt:Con:=Con.add fBt cBt con0
def fHi:FuncId:=81
def vHi(x:Int):V:=verF P conBt 3 6 fHi [] (.loop Int [] (fun _=>some ⟨[],fun _=>[],[3],fun i=>[iv i],intT 3,fun i=>-1<=i/\i<=63,fun i=>(i+1).toNat⟩) .nil .nil) [.c (uw x)] ⟨[],0,fun _=>True⟩ (finI .i64 fun r=>-1<=r/\r<=63)
def fNh:FuncId:=139
def vNh(x n:Int):V:=verF P conBt 3 6 fNh [] (.loop (Int×Int) [] (fun _=>some ⟨[],fun _=>[],[5,1],fun i=>[iv i.1,iv i.2],fun s=>match tmI 5 s,tmI 1 s with|some a,some b=>some (a,b)|_,_=>none,fun i=>0<=i.1/\i.1<=64,fun i=>(64-i.1).toNat⟩) .nil .nil) [.c (uw x),iv n] ⟨[],0,fun _=>True⟩ (finI .i64 fun r=>-1<=r/\r<=63)
def fCs:FuncId:=128
def vCs(a b c:Int):V:=verF P con0 3 6 fCs [] .nil [iv a,iv b,iv c] ⟨[],0,fun _=>True⟩ (finI .i64 fun _=>True)
def vIw(f i n w:Int):V:=verF P con0 3 4 fIx [] .nil [iv f,iv i,iv n,iv w] ⟨[],0,fun _=>True⟩ (finI .i64 fun r=>r=-1\/(0<=i/\i<n))
def cIw:List SV->Hp->Out (SV×Hp):=fun args H=>match nums args with
 | some [f,i,n,w]=>useP [] 0 [iv f,iv i,iv n,iv w] [] (.need True (.any Int (fun r=>r=-1\/(0<=i/\i<n)) fun r=>.leaf (.c (.iv .i64 r),⟨[],0,fun _=>True⟩))) args H
 | _=>.bad 484
def conIw:Con:=Con.add fIx cIw con0
def fTw:FuncId:=138
def finI3(φ:Int->Prop):SV->Hp->V:=finV (X:=Int) 3 3 (fun s _=>numS s) (fun _ _=>[]) φ (fun r=>.c (.iv .i64 r)) (fun _=>[])
def vTw(c:Cf)(t k:Int):V:=verF P conIw 4 8 fTw [] .nil [argC c,iv t,iv k] ⟨hC c,3,fun _=>True⟩ (finI3 fun r=>r=-1\/(0<=t/\t<c.T))
def fQw:FuncId:=66
structure Q4 where
 t:Int
 b:Int
 r:Int
 c:Int
def okQ4(q:Q4):Prop:=q.c<=64
def vQw(c:Cf)(w l:Int):V:=verF P con0 4 8 fQw [] .nil [argC c,iv w,iv l] ⟨hC c,3,fun _=>True⟩
 (finV (X:=Q4) 3 3 (fun s _=>match numA 0 s,numA 1 s,numA 2 s,numA 3 s with|some a,some b,some c,some d=>some ⟨a,b,c,d⟩|_,_,_,_=>none) (fun _ _=>[]) okQ4 (fun q=>.a [i6 q.t,i6 q.b,i6 q.r,i6 q.c]) (fun _=>[]))
def fRg:FuncId:=110
def vRg(q:Q4)(i:Int):V:=verF P con0 4 8 fRg [] .nil [.a [i6 q.t,i6 q.b,i6 q.r,i6 q.c],.c (uw i)] ⟨[],0,fun _=>True⟩ (finI .i64 fun _=>True)
end
abbrev g370(a0:Int)(k:V):V:=U (a0=(↑a0.toNat:Int)) (U (O 0<=a0/\a0<=O 63) k)
theorem vBt_eq(x v:Int):V.pr .z (vBt x v)=
 zj (decide (v >= O 0)) (zj (decide (v<O 64)) (g370 v (nN [qX (O 2 ^ v.toNat)] (ze Int (fun (r:Int)=>r=O 2 ^ v.toNat) fun y0=>U (y0≠O 0) (nN [(1,.neI 2 0)] (U True (nN [qE (((u64.wrap (x.tdiv y0)).tmod (O 2) == O 1))] zw)))))) (U True (nN [qE false] zw))) (U True (nN [qE false] zw)):=by kernel_rfl
theorem vMk_eq(v:Int):V.pr .z (vMk v)=
 zj (decide (v<O 0)) (nN [(1,.leI2 0 0 0 18446744073709551615)] (nN [(1,.eqI 0 0)] (zw))) (zj (decide (v>O 63)) (nN [(1,.leI2 0 0 0 18446744073709551615)] (nN [(1,.eqI 0 0)] (zw))) (g370 v (nN [qX (O 2 ^ v.toNat)] (ze Int (fun (r:Int)=>r=O 2 ^ v.toNat) fun y0=>U (O 0<=y0/\y0<=O 18446744073709551615) (nN [qE y0] zw))))):=by kernel_rfl
abbrev g293(k:V):V:=U (-O 1<=Int.negSucc 0/\Int.negSucc 0<=O 63) (nN [qE (Int.negSucc 0)] k)
theorem vHi_eq(x:Int):V.pr .z (vHi x)=
 U (-O 1<=O 63/\O 63<=O 63) (nN [(1,.eqI 63 63)] (ze Int (fun (i:Int)=>-O 1<=i/\i<=O 63) fun y0=>zj (decide (y0 >= O 0)) (nN [qE x,qE y0] (U True (nA (fun (x:Bool)=>True) fun y1=>zj y1 (U (-O 1<=y0/\y0<=O 63) (nN [qE y0] (zw))) (U (-O 1<=i64.wrap (y0-O 1)/\i64.wrap (y0-O 1)<=O 63) (U ((i64.wrap (y0-O 1)+O 1).toNat<(y0+O 1).toNat) (nN [qE (i64.wrap (y0-O 1))] zw)))))) (g293 zw))):=by kernel_rfl
theorem vNh_eq(x n:Int):V.pr .z (vNh x n)=
 nN [(1,.leI2 0 0 0 64),(1,.eqI 0 0),qE n] (ze (Int×Int) (fun (i:Int×Int)=>O 0<=i.fst/\i.fst<=O 64) fun y0=>zj (decide (y0.fst<O 64)) (nN [qE x,qE y0.fst] (U True (nA (fun (x:Bool)=>True) fun y1=>zj (!y1) (U (O 0<=i64.wrap (y0.fst+O 1)/\i64.wrap (y0.fst+O 1)<=O 64) (U ((O 64-i64.wrap (y0.fst+O 1)).toNat<(O 64-y0.fst).toNat) (nN [qE (i64.wrap (y0.fst+O 1))] (nN [qE y0.snd] (zw))))) (zj (y0.snd == O 0) (U (-O 1<=y0.fst/\y0.fst<=O 63) (nN [qE y0.fst] (zw))) (U (O 0<=i64.wrap (y0.fst+O 1)/\i64.wrap (y0.fst+O 1)<=O 64) (U ((O 64-i64.wrap (y0.fst+O 1)).toNat<(O 64-y0.fst).toNat) (nN [qE (i64.wrap (y0.fst+O 1)),qE (i64.wrap (y0.snd-O 1))] zw))))))) (g293 zw)):=by kernel_rfl
theorem vCs_eq(a b c:Int):V.pr .z (vCs a b c)=
 zj (decide (b<O 1)) (U True (nN [(1,.eqI 0 0)] (zw))) (zj (decide (b>O 64)) (U True (nN [(1,.eqI 0 0)] (zw))) (zj (decide (a<O 0)) (U True (nN [(1,.eqI 0 0)] (zw))) (zj (decide (a >= b)) (U True (nN [(1,.eqI 0 0)] (zw))) (zj (decide (c<O 1)) (U True (nN [(1,.eqI 0 0)] (zw))) (zj (decide (c>O 8)) (U True (nN [(1,.eqI 0 0)] (zw))) (U (b≠O 0) (U True (nN [qE (i64.wrap ((i64.wrap (a*c)).tdiv b))] zw)))))))):=by kernel_rfl
theorem vIw_eq(f i n w:Int):V.pr .z (vIw f i n w)=
 zj (decide (i<O 0)) (U (Int.negSucc 0=-O 1\/O 0<=i/\i<n) (nN [qE (Int.negSucc 0)] (zw))) (zj (decide (i >= n)) (U (Int.negSucc 0=-O 1\/O 0<=i/\i<n) (nN [qE (Int.negSucc 0)] (zw))) (U (i64.wrap (f+i64.wrap (i*w))=-O 1\/O 0<=i/\i<n) (nN [qE (i64.wrap (f+i64.wrap (i*w)))] zw))):=by kernel_rfl
abbrev g77(a0:Int)(a1:Cf)(k:Int->V):V:=U True (nA (fun (r:Int)=>r=-O 1\/O 0<=a0/\a0<a1.T) fun v0=>k v0)
theorem vTw_eq(c:Cf)(t k:Int):V.pr .z (vTw c t k)=
 nN [(19,.lt2 0 1 0 1),qE (i64.wrap (i64.wrap (i64.wrap (i64.wrap (O 4+c.H)+c.C)+i64.wrap (O 2*c.W))+i64.wrap (i64.wrap (c.W*c.L)*i64.wrap (O 2+c.D)))),qE t,qE c.T,(1,.eqI 5 5)] (g77 t c fun y0=>zj (decide (y0<O 0)) (U (Int.negSucc 0=-O 1\/O 0<=t/\t<c.T) (nN [qE (Int.negSucc 0)] (zw))) (U (i64.wrap (y0+k)=-O 1\/O 0<=t/\t<c.T) (nN [qE (i64.wrap (y0+k))] zw))):=by kernel_rfl
abbrev g127(k:V):V:=U (okQ4 (Q4.mk (Int.negSucc 0) (Int.negSucc 0) (Int.negSucc 0) (O 0))) (nN [qE (Int.negSucc 0)] k)
abbrev g381(l:LP):LP:=qE (Int.negSucc 0)::qE (Int.negSucc 0)::(1,.eqI 0 0)::l
theorem vQw_eq(c:Cf)(w l:Int):V.pr .z (vQw c w l)=
 zj (decide (w<O 0)) (g127 (nN (g381 []) zw)) (zj (decide (w >= c.W)) (g127 (nN (g381 []) zw)) (zj (decide (l<O 0)) (g127 (nN (g381 []) zw)) (zj (decide (l >= c.L)) (g127 (nN (g381 []) zw)) (nN [(15,.lt2 0 1 0 1)] (U (okQ4 (Q4.mk (i64.wrap (i64.wrap (i64.wrap (i64.wrap (O 4+c.H)+c.C)+i64.wrap (O 2*c.W))+i64.wrap (i64.wrap (i64.wrap (w*c.L)+l)*i64.wrap (O 2+c.D)))) (i64.wrap (i64.wrap (i64.wrap (i64.wrap (i64.wrap (O 4+c.H)+c.C)+i64.wrap (O 2*c.W))+i64.wrap (i64.wrap (i64.wrap (w*c.L)+l)*i64.wrap (O 2+c.D)))+O 1)) (i64.wrap (i64.wrap (i64.wrap (i64.wrap (i64.wrap (O 4+c.H)+c.C)+i64.wrap (O 2*c.W))+i64.wrap (i64.wrap (i64.wrap (w*c.L)+l)*i64.wrap (O 2+c.D)))+O 2)) c.D)) (nN [qE (i64.wrap (i64.wrap (i64.wrap (i64.wrap (O 4+c.H)+c.C)+i64.wrap (O 2*c.W))+i64.wrap (i64.wrap (i64.wrap (w*c.L)+l)*i64.wrap (O 2+c.D)))),qE (i64.wrap (i64.wrap (i64.wrap (i64.wrap (i64.wrap (O 4+c.H)+c.C)+i64.wrap (O 2*c.W))+i64.wrap (i64.wrap (i64.wrap (w*c.L)+l)*i64.wrap (O 2+c.D)))+O 1)),qE (i64.wrap (i64.wrap (i64.wrap (i64.wrap (i64.wrap (O 4+c.H)+c.C)+i64.wrap (O 2*c.W))+i64.wrap (i64.wrap (i64.wrap (w*c.L)+l)*i64.wrap (O 2+c.D)))+O 2)),qE c.D] zw)))))):=by kernel_rfl
theorem vRg_eq(q:Q4)(i:Int):V.pr .z (vRg q i)=
 zj (decide (q.c<O 1)) (U True (nN [qE (Int.negSucc 0)] (zw))) (nN [(4,.lt2 0 1 0 1)] (U (u64.wrap q.c≠O 0) (U True (nN [qE (i64.wrap (q.r+i64.wrap (i.tmod (u64.wrap q.c))))] zw)))):=by kernel_rfl
theorem pw_w{x v:Int}(h:x=((2:Nat):Int) ^ v.toNat)(h1:v.toNat<=63):1<=x/\x<=18446744073709551615:=by
 have hp:=pow63 h1
 have h2:x=(2:Int) ^ v.toNat:=h
 omega
theorem vhBt{x v:Int}:zad (vBt x v):=by
 refine zad.pr (vBt_eq ..) ?_
 (with_reducible repeat' first|exact zk|refine zn ?_|refine zm ?_|refine zl ?_ ?_|refine zi ?_|refine nN_h rfl ?_|refine z9 ?_ ?_|intro _)
 all_goals (simp only[decide_eq_true_eq,decide_eq_false_iff_not,zz,z7,za,ge_iff_le,gt_iff_lt,zx,zf,zg,zd]at *)
 all_goals first
  | omega
  | exact⟨_,trivial⟩
  | (have:=pw_w ‹_› (show v.toNat<=63 by omega);omega)
  | trace_state
theorem vhMk{v:Int}:zad (vMk v):=by
 refine zad.pr (vMk_eq ..) ?_
 (with_reducible repeat' first|exact zk|refine zn ?_|refine zm ?_|refine zl ?_ ?_|refine zi ?_|refine nN_h rfl ?_|refine z9 ?_ ?_|intro _)
 all_goals (simp only[decide_eq_true_eq,decide_eq_false_iff_not,zz,z7,za,ge_iff_le,gt_iff_lt,zx,zf,zg,zd]at *)
 all_goals first
  | omega
  | (have:=pw_w ‹_› (show v.toNat<=63 by omega);omega)
  | trace_state
theorem vhHi{x:Int}:zad (vHi x):=by
 refine zad.pr (vHi_eq ..) ?_
 (with_reducible repeat' first|exact zk|refine zn ?_|refine zm ?_|refine zl ?_ ?_|refine zi ?_|refine nN_h rfl ?_|refine z9 ?_ ?_|intro _)
 all_goals (simp only[decide_eq_true_eq,decide_eq_false_iff_not,zz,z7,za,ge_iff_le,gt_iff_lt,zx,zf,zg,zd]at *)
 all_goals first
  | trivial
  | exact⟨true,trivial⟩
  | (rw[w64 (by omega)];omega)
  | omega
  | (constructor<;>decide)
  | trace_state
theorem vhNh{x n:Int}:zad (vNh x n):=by
 refine zad.pr (vNh_eq ..) ?_
 (with_reducible repeat' first|exact zk|refine zn ?_|refine zm ?_|refine zl ?_ ?_|refine zi ?_|refine nN_h rfl ?_|refine z9 ?_ ?_|intro _)
 all_goals (simp only[decide_eq_true_eq,decide_eq_false_iff_not,zz,z7,za,ge_iff_le,gt_iff_lt,zx,zf,zg,zd]at *)
 all_goals first
  | trivial
  | exact⟨true,trivial⟩
  | (rw[w64 (by omega)];omega)
  | omega
  | (constructor<;>decide)
  | trace_state
theorem vhCs{a b c:Int}:zad (vCs a b c):=by
 refine zad.pr (vCs_eq ..) ?_
 (with_reducible repeat' first|exact zk|refine zn ?_|refine zm ?_|refine zl ?_ ?_|refine zi ?_|refine nN_h rfl ?_|refine z9 ?_ ?_|intro _)
 all_goals (simp only[decide_eq_true_eq,decide_eq_false_iff_not,zz,z7,za,ge_iff_le,gt_iff_lt,zx,zf,zg,zd]at *)
 all_goals first|trivial|omega|trace_state
theorem vhIw{f i n w:Int}:zad (vIw f i n w):=by
 refine zad.pr (vIw_eq ..) ?_
 (with_reducible repeat' first|exact zk|refine zn ?_|refine zm ?_|refine zl ?_ ?_|refine zi ?_|refine nN_h rfl ?_|refine z9 ?_ ?_|intro _)
 all_goals (simp only[decide_eq_true_eq,decide_eq_false_iff_not,zz,z7,za,ge_iff_le,gt_iff_lt,zx,zf,zg,zd]at *)
 all_goals first|exact .inl rfl|exact .inr (by omega)|trace_state
theorem vhTw{c:Cf}{t k:Int}:zad (vTw c t k):=by
 refine zad.pr (vTw_eq ..) ?_
 (with_reducible repeat' first|exact zk|refine zn ?_|refine zm ?_|refine zl ?_ ?_|refine zi ?_|refine nN_h rfl ?_|refine z9 ?_ ?_|intro _)
 all_goals (simp only[decide_eq_true_eq,decide_eq_false_iff_not,zz,z7,za,ge_iff_le,gt_iff_lt,zx,zf,zg,zd]at *)
 all_goals first|trivial|exact⟨-1,.inl rfl⟩|exact .inl rfl|omega|trace_state
theorem vhQw{c:Cf}{w l:Int}(h:c.D<=64):zad (vQw c w l):=by
 refine zad.pr (vQw_eq ..) ?_
 (with_reducible repeat' first|exact zk|refine zn ?_|refine zm ?_|refine zl ?_ ?_|refine zi ?_|refine nN_h rfl ?_|refine z9 ?_ ?_|intro _)
 all_goals (simp only[decide_eq_true_eq,decide_eq_false_iff_not,zz,z7,za,ge_iff_le,gt_iff_lt,zx,zf,zg,zd]at *)
 all_goals first|exact h|(unfold okQ4;decide)|trace_state
theorem vhRg{q:Q4}{i:Int}(h:q.c<=9223372036854775807):zad (vRg q i):=by
 refine zad.pr (vRg_eq ..) ?_
 (with_reducible repeat' first|exact zk|refine zn ?_|refine zm ?_|refine zl ?_ ?_|refine zi ?_|refine nN_h rfl ?_|refine z9 ?_ ?_|intro _)
 all_goals (simp only[decide_eq_true_eq,decide_eq_false_iff_not,zz,z7,za,ge_iff_le,gt_iff_lt,zx,zf,zg,zd]at *)
 all_goals first|trivial|(rw[wu64 (by omega)];omega)|trace_state
noncomputable section
theorem cBt_ok:zab P fBt cBt:=zac fun args H=>by
 unfold cBt
 repeat' split
 all_goals first|exact .inl ⟨_,rfl⟩|exact .inr ⟨_,_,_,_,_,rfl,zae conPw_ok fun h=>vhBt⟩
theorem conBt_ok:zaj P conBt:=.add cBt_ok zaj.nil
def cMk:List SV->Hp->Out (SV×Hp):=fun args H=>match nums args with
 | some [v]=>useP [] 0 [iv v] [] (.need True (.any Int (fun r=>0<=r/\r<=18446744073709551615) fun r=>.leaf (.c (.iv .u64 r),⟨[],0,fun _=>True⟩))) args H
 | _=>.bad 484
theorem cMk_ok:zab P fMk cMk:=zac fun args H=>by
 unfold cMk
 repeat' split
 all_goals first|exact .inl ⟨_,rfl⟩|exact .inr ⟨_,_,_,_,_,rfl,zae conPw_ok fun h=>vhMk⟩
def cHi:List SV->Hp->Out (SV×Hp):=fun args H=>match nums args with
 | some [x]=>useP [] 0 [.c (uw x)] [] (.need True (.any Int (fun r=>-1<=r/\r<=63) fun r=>.leaf (.c (.iv .i64 r),⟨[],0,fun _=>True⟩))) args H
 | _=>.bad 484
theorem cHi_ok:zab P fHi cHi:=zac fun args H=>by
 unfold cHi
 repeat' split
 all_goals first|exact .inl ⟨_,rfl⟩|exact .inr ⟨_,_,_,_,_,rfl,zae conBt_ok fun h=>vhHi⟩
def cNh:List SV->Hp->Out (SV×Hp):=fun args H=>match nums args with
 | some [x,n]=>useP [] 0 [.c (uw x),iv n] [] (.need True (.any Int (fun r=>-1<=r/\r<=63) fun r=>.leaf (.c (.iv .i64 r),⟨[],0,fun _=>True⟩))) args H
 | _=>.bad 484
theorem cNh_ok:zab P fNh cNh:=zac fun args H=>by
 unfold cNh
 repeat' split
 all_goals first|exact .inl ⟨_,rfl⟩|exact .inr ⟨_,_,_,_,_,rfl,zae conBt_ok fun h=>vhNh⟩
def cCs:List SV->Hp->Out (SV×Hp):=fun args H=>match nums args with
 | some [a,b,c]=>useP [] 0 [iv a,iv b,iv c] [] (.need True (.any Int (fun _=>True) fun r=>.leaf (.c (.iv .i64 r),⟨[],0,fun _=>True⟩))) args H
 | _=>.bad 484
theorem cCs_ok:zab P fCs cCs:=zac fun args H=>by
 unfold cCs
 repeat' split
 all_goals first|exact .inl ⟨_,rfl⟩|exact .inr ⟨_,_,_,_,_,rfl,zae zaj.nil fun h=>vhCs⟩
theorem cIw_ok:zab P fIx cIw:=zac fun args H=>by
 unfold cIw
 repeat' split
 all_goals first|exact .inl ⟨_,rfl⟩|exact .inr ⟨_,_,_,_,_,rfl,zae zaj.nil fun h=>vhIw⟩
theorem conIw_ok:zaj P conIw:=.add cIw_ok zaj.nil
def conCw(post:Cf->Int->Int->Out (SV×Hp)):List SV->Hp->Out (SV×Hp):=fun args H=>match args with
 | [s,.c w,.c v]=>match rdCf s H.h,numC w,numC v with
  | some p,some w,some v=>match p.2 with
   | [k0,k1,k2]=>fN k0 fun k0=>fN k1 fun k1=>fN k2 fun k2=>useP [k0,k1,k2] 3 [argC p.1,iv w,iv v] (hC p.1) (post p.1 w v) args H
   | _=>.bad 452
  | _,_,_=>.bad 453
 | _=>.bad 454
theorem conCw_ok{f:FuncId}{post:Cf->Int->Int->Out (SV×Hp)}(h:∀c w v,zah P f [argC c,iv w,iv v] (hC c) 3 (post c w v)):zab P f (conCw post):=zac fun args H=>by
 unfold conCw
 simp only[fN_eq]
 repeat' split
 all_goals first
  | exact .inl ⟨_,rfl⟩
  | exact .inr ⟨_,_,_,_,_,rfl,h _ _ _⟩
def cTw:List SV->Hp->Out (SV×Hp):=conCw fun c t k=>.need True (.any Int (fun r=>r=-1\/(0<=t/\t<c.T)) fun r=>.leaf (.c (.iv .i64 r),⟨[],3,fun _=>True⟩))
theorem cTw_ok:zab P fTw cTw:=conCw_ok fun c t k=>zae conIw_ok fun h=>vhTw
def cQw:List SV->Hp->Out (SV×Hp):=conCw fun c w l=>.need (c.D<=64) (.any Q4 okQ4 fun q=>.leaf (.a [i6 q.t,i6 q.b,i6 q.r,i6 q.c],⟨[],3,fun _=>True⟩))
theorem cQw_ok:zab P fQw cQw:=conCw_ok fun c w l=>zae zaj.nil fun h=>vhQw h
def cRg:List SV->Hp->Out (SV×Hp):=fun args H=>match args with
 | [.a [x0,x1,x2,x3],.c i]=>match numsC [x0,x1,x2,x3,i]with
  | some [a,b,c,d,i]=>useP [] 0 [.a [i6 a,i6 b,i6 c,i6 d],.c (uw i)] [] (.need (d<=9223372036854775807) (.any Int (fun _=>True) fun r=>.leaf (.c (.iv .i64 r),⟨[],0,fun _=>True⟩))) args H
  | _=>.bad 484
 | _=>.bad 484
theorem cRg_ok:zab P fRg cRg:=zac fun args H=>by
 unfold cRg
 repeat' split
 all_goals first|exact .inl ⟨_,rfl⟩|exact .inr ⟨_,_,_,_,_,rfl,zae zaj.nil fun h=>vhRg (q:=⟨_,_,_,_⟩) h⟩
end
def wd(x:Int):Prop:=0<=x/\x<=18446744073709551615
structure Wa where
 m:Mm
 o:Int
 b:Bool
noncomputable section
def zfz(r:Rv)(a v w:Int):Out (SV×Hp):=.need (okW r.m/\wd v/\wd w) (.any Wa (fun p=>okW p.m/\wd p.o/\(p.b=true->0<=a)) fun p=>.leaf (.t [.c (uw p.o),.c (.bv p.b)],⟨(r.W p.m).h2,6,fun _=>True⟩))
theorem zfx{kd:Nat}{r:Rv}{a v w:Int}{M:Mm}{b:Bool}(h:zah P fRA (zb9 kd a v w) r.h 6 (zfc r a M b))(h1:okW r.m->wd v->wd w->okW M)(h2:b=true->0<=a):zah P fRA (zb9 kd a v w) r.h 6 (zfz r a v w):=h.mono fun K hK=>by
 obtain⟨⟨p1,p2,p3⟩,-,h3⟩:=hK
 have hv:wd (r.m.val r.len a):=by
  unfold Mm.val
  cases inb r.len a with
  | false=>exact⟨Int.le_refl 0,(by decide:(0:Int)<=18446744073709551615)⟩
  | true=>exact p1 _
 exact⟨⟨M,rfl⟩,fun m' e=>by subst e;exact h3 ⟨_,_,_⟩ ⟨h1 p1 p2 p3,hv,h2⟩⟩
theorem inb_p{n:Nat}{a:Int}(h:inb n a=true):0<=a:=by
 by_cases ha:0<=a
 ·exact ha
 ·rw[inb_f (by omega)]at h;cases h
theorem hit_p{m:Mm}{n:Nat}{a x:Int}(h:m.hit n a x=true):0<=a:=by
 unfold Mm.hit at h
 cases hb:inb n a with
 | true=>exact inb_p hb
 | false=>simp[hb]at h
theorem val_w{m:Mm}{n:Nat}{a:Int}(h:okW m):wd (m.val n a):=by
 unfold Mm.val
 cases inb n a with
 | false=>exact⟨Int.le_refl 0,(by decide:(0:Int)<=18446744073709551615)⟩
 | true=>exact h _
theorem wRA1{r:Rv}{a v w:Int}:zah P fRA (zb9 1 a v w) r.h 6 (zfz r a v w):=zfx nRA1 (fun h _ _=>Mm.ok_acc h (val_w h)) inb_p
theorem wRA2{r:Rv}{a v w:Int}:zah P fRA (zb9 2 a v w) r.h 6 (zfz r a v w):=zfx nRA2 (fun h hv _=>Mm.ok_acc h hv) inb_p
theorem wRA3{r:Rv}{a v w:Int}:zah P fRA (zb9 3 a v w) r.h 6 (zfz r a v w):=zfx nRA3 (fun h _ hw=>Mm.ok_acc h (casV_ok (val_w h) hw)) hit_p
theorem wRA4{r:Rv}{a v w:Int}:zah P fRA (zb9 4 a v w) r.h 6 (zfz r a v w):=zfx nRA4 (fun h _ _=>Mm.ok_acc h (bits_ok _)) inb_p
theorem wRA5{r:Rv}{a v w:Int}:zah P fRA (zb9 5 a v w) r.h 6 (zfz r a v w):=zfx nRA5 (fun h _ _=>Mm.ok_acc h (bits_ok _)) inb_p
theorem wRA6{r:Rv}{a v w:Int}:zah P fRA (zb9 6 a v w) r.h 6 (zfz r a v w):=zfx nRA6 (fun h _ _=>Mm.ok_acc h (wrap_ok _)) inb_p
def cWA:List SV->Hp->Out (SV×Hp):=fun args H=>match args with
 | [.c (.ptr k _ _ f _),.c (.ki _ kd),.c ca,.c cv,.c cw]=>fN k fun k=>match rdRv k H.h,numsC [ca,cv,cw]with
  | some (r,σ),some [a,v,w]=>match kd.toNat with
   | 1=>useP σ 6 (zb9 1 a v w) r.h (zfz r a v w) args H
   | 2=>useP σ 6 (zb9 2 a v w) r.h (zfz r a v w) args H
   | 3=>useP σ 6 (zb9 3 a v w) r.h (zfz r a v w) args H
   | 4=>useP σ 6 (zb9 4 a v w) r.h (zfz r a v w) args H
   | 5=>useP σ 6 (zb9 5 a v w) r.h (zfz r a v w) args H
   | 6=>useP σ 6 (zb9 6 a v w) r.h (zfz r a v w) args H
   | _=>.bad 482
  | _,_=>.bad 480
 | _=>.bad 481
theorem cWA_ok:zab P fRA cWA:=zac fun args H=>by
 unfold cWA
 simp only[fN_eq]
 repeat' split
 all_goals first
  | exact .inl ⟨_,rfl⟩
  | with_reducible exact .inr ⟨_,_,_,_,_,rfl,wRA1⟩
  | with_reducible exact .inr ⟨_,_,_,_,_,rfl,wRA2⟩
  | with_reducible exact .inr ⟨_,_,_,_,_,rfl,wRA3⟩
  | with_reducible exact .inr ⟨_,_,_,_,_,rfl,wRA4⟩
  | with_reducible exact .inr ⟨_,_,_,_,_,rfl,wRA5⟩
  | with_reducible exact .inr ⟨_,_,_,_,_,rfl,wRA6⟩
end
structure Fk where
 kd:Nat->Int
 ln:Nat->Int
 qt:Nat->Int
 qb:Nat->Int
 qr:Nat->Int
 qc:Nat->Int
 a:Nat->Int
 b:Nat->Int
 d:Nat->Int
 i:Nat->Int
 j:Nat->Int
 n:Nat->Int
 t:Nat->Int
 u:Nat->Int
 v:Nat->Int
 w:Nat->Int
 x:Nat->Int
 ll:Nat->Nat
 lc:Nat->Nat
 ld:Nat->Nat->Int
structure Es where
 m:Mm
 now:Int
 dr:Int
 x:Rk
 kc:Nat->Nat
 ne:Nat
 nc:Nat
 f:Fk
structure Ep where
 n:Nat
 cap:Nat
 rc:Nat
 fn:Nat
 fc:Nat
structure Eo where
 s:Es
 done:Bool
 code:Int
 value:Int
noncomputable section
def evU(n cap:Nat):Blk:=.row 152 cap n [.cu,.cu,.cu,.cu,.cu]
def tFrm:TypeId:=64
def Fk.cols(f:Fk)(k:Nat):List Col:=[f.kd,f.ln,f.qt,f.qb,f.qr,f.qc,f.a,f.b,f.d,f.i,f.j,f.n,f.t].map (fun g=>.ci .i64 fun _ e=>g e)++[f.u,f.v,f.w,f.x].map (fun g=>.ci .u64 fun _ e=>g e)++[.cs k 1 (fun _ e=>e) (fun _ e=>f.ll e) (fun _ e=>f.lc e)]
def Fk.row(f:Fk)(k n cap:Nat):Blk:=.row tFrm cap n (f.cols k)
def Fk.fam(f:Fk)(n:Nat):Blk:=.fam true 3 (fun i=>f.lc i) (fun i=>upto n f.ll i) [.ci .i64 fun i e=>f.ld i e]
def hCk(c:Cf):HL:=[(1,.view 1 (fun _=>c.nP) [.cs 3 3 (fun _ e=>e) (fun _ e=>c.lenP e) (fun _ e=>c.FC e)]),(2,.view 1 (fun _=>c.nU) [.ci .i64 fun _ e=>c.uP e,.ci .i64 fun _ e=>c.uL e,.ci .i64 fun _ e=>c.uD e]),(3,.view c.nP c.lenP [.ci .i64 fun i e=>c.iO i e,.ci .i64 fun i e=>c.iA i e,.ci .i64 fun i e=>c.iB i e])]
def Es.rv(s:Es)(c:Cf)(p:Ep):Rv:=⟨c,p.n,p.cap,s.m,s.now,s.dr,s.x.n,p.rc,s.ne,s.nc⟩
def Es.hE(s:Es)(c:Cf)(p:Ep)(ke:Nat):HL:=[(0,(s.rv c p).b 1 2 4 5 ke),(4,wRow p.cap p.n s.m),(5,s.x.row 6 s.kc p.rc),(6,s.x.fam s.x.n s.kc),(8,s.f.row 9 p.fn p.fc),(9,s.f.fam p.fn),(ke,evU s.ne s.nc)]
def Es.h(s:Es)(c:Cf)(p:Ep):HL:=s.hE c p 7++hCk c
def argLf(i:Nat):List SV:=[.c (.ptr 0 (.k 0) (.k 0) 0 21),.c (.ptr 8 (.k 0) (.s i) 0 18)]
def rdFk(k:Nat)(h:HL):Option (Fk×Nat):=match (find k h).map zfe with
 | some [c0,c1,c2,c3,c4,c5,c6,c7,c8,c9,c10,c11,c12,c13,c14,c15,c16,.cs kf _ _ ln cp]=>match colG c0,colG c1,colG c2,colG c3,colG c4,colG c5,colG c6,colG c7,colG c8,colG c9 with
  | some g0,some g1,some g2,some g3,some g4,some g5,some g6,some g7,some g8,some g9=>match colG c10,colG c11,colG c12,colG c13,colG c14,colG c15,colG c16,famK kf h with
   | some g10,some g11,some g12,some g13,some g14,some g15,some g16,some G=>some (⟨fun e=>g0 e,fun e=>g1 e,fun e=>g2 e,fun e=>g3 e,fun e=>g4 e,fun e=>g5 e,fun e=>g6 e,fun e=>g7 e,fun e=>g8 e,fun e=>g9 e,fun e=>g10 e,fun e=>g11 e,fun e=>g12 e,fun e=>g13 e,fun e=>g14 e,fun e=>g15 e,fun e=>g16 e,fun e=>ln 0 e,fun e=>cp 0 e,fun i e=>G i e⟩,kf)
   | _,_,_,_,_,_,_,_=>none
  | _,_,_,_,_,_,_,_,_,_=>none
 | _=>none
def rdEs(ke kf:Nat)(h:HL):Option (Es×List Nat):=match rdRv ke h,rdFk kf h with
 | some (r,[k0,k4,k1,k2,k5,k7]),some (f,k9)=>match rdRk k5 r.rn h with
  | some (x,k6,kc)=>some (⟨r.m,r.now,r.dr,x,kc,r.ne,r.nc,f⟩,[k0,k1,k2,k4,k5,k6,k7,k9])
  | none=>none
 | _,_=>none
def renK(k:Nat)(s:St):Nat:=scK (zax k 20 s.H.h)
def blC:SC->Option Bool
 | .kb b=>some b
 | .bv b=>some b
 | _=>none
def rdRes:SV->Option (Bool×Int×Int)
 | .a [a,b,c]=>match blC a,numC b,numC c with
  | some x,some y,some z=>some (x,y,z)
  | _,_,_=>none
 | _=>none
def rdEo(s:SV)(H:Hp):Option Eo:=match rdRes s,rdEs 0 8 H.h with
 | some (a,b,c),some (x,_)=>some ⟨x,a,b,c⟩
 | _,_=>none
def svEo(x:Eo):SV:=.a [.bv x.done,i6 x.code,i6 x.value]
def LEo(s:SV)(H:Hp):List Nat:=[scK (zax 0 20 H.h)]
def fEm:FuncId:=96
def Rv.E(r:Rv)(ne nc:Nat):Rv:=⟨r.c,r.len,r.cap,r.m,r.now,r.dr,r.rn,r.rc,ne,nc⟩
def Rv.hm(r:Rv):HL:=[(0,r.b 1 2 3 4 5),(1,dum 1),(2,dum 3),(3,dum 1),(4,dum 7),(5,evU r.ne r.nc)]
def argEm(a b d e f:Int):List SV:=[.c (.ptr 0 (.k 0) (.k 0) 0 21),iv a,iv b,iv d,iv e,iv f]
def vEm(r:Rv)(a b d e f:Int):V:=verF P con0 3 6 fEm [(0,.ren (renK 0))] .nil (argEm a b d e f) ⟨r.hm,6,fun _=>True⟩
 (finV (X:=Nat) 6 7 (fun _ H=>(ceS 0 20 H.h).map fun q=>q.2.2) (fun _ H=>[scK (zax 0 20 H.h)]) (fun c=>r.ne+1<=c) (fun _=>.t []) (fun c=>[(0,(r.E (r.ne+1) c).b 1 2 3 4 6),(6,evU (r.ne+1) c)]))
def fTp:FuncId:=130
def Fk.rowV(f:Fk)(k n:Nat):Blk:=.view 1 (fun _=>n) (f.cols k)
def Fk.famV(f:Fk)(n:Nat):Blk:=.view n (fun q=>f.ll q) [.ci .i64 fun i e=>f.ld i e]
def argTp(i:Nat):List SV:=[.c (.ptr 0 (.k 0) (.s i) 0 18)]
def vTp(f:Fk)(n i:Nat):V:=verF P con0 3 6 fTp [] .nil (argTp i) ⟨[(0,f.rowV 1 n),(1,f.famV n)],2,fun _=>True⟩
 (finV (X:=Int) 2 2 (fun s _=>numS s) (fun _ _=>[]) (fun r=>r=f.ld i (f.ll i-1)) (fun r=>.c (i6 r)) (fun _=>[]))
end
abbrev aN{α:Type}(n:Nat)(v:α)(f:Nat->α):Nat->α:=fun e=>if 0=0/\e=n then v else f e
abbrev lC(c:Cf)(p:Ep)(s:Es)(l:List (Nat×P0)):List (Nat×P0):=qE c.W::qE c.L::qE c.C::qE c.T::qE c.D::qE c.H::qE c.B::qE c.A::qE c.P::qE c.nP::qE c.rc::qE c.nU::qE c.cu::qE p.n::qE p.cap::qE s.m.lk::qE s.m.lc::qE s.m.lo::qE s.m.ln::qE s.m.ct::qE s.now::qE s.dr::qE s.x.n::qE p.rc::qE s.ne::qE s.nc::l
abbrev lX(p:Ep)(s:Es)(k:V):V:=nN [qE p.cap,qL p.n,qF p.n s.m.g,qE p.rc,qL s.x.n,qF s.x.n s.x.p,qF s.x.n s.x.pa,qF s.x.n s.x.pc,qF s.x.n s.x.lf,qF s.x.n s.x.wt,qF s.x.n (fun (e:Nat)=>e),qF s.x.n s.x.kl,qF s.x.n s.kc,qF s.x.n s.x.st]
 (U (∀(i:Nat),s.kc i=s.kc i\/s.kc i=0) (U (∀(i:Nat),upto s.x.n s.x.kl i<=s.kc i/\upto s.x.n s.x.kl i<=upto s.x.n s.x.kl i) (nN [(1,.pf (∀(i e:Nat),e<upto s.x.n s.x.kl i->s.x.kd i e=s.x.kd i e) (by intros;rfl))] k)))
abbrev lF(n cap:Nat)(f:Fk)(k:V):V:=nN [qE cap,qL n,qF n f.kd,qF n f.ln,qF n f.qt,qF n f.qb,qF n f.qr,qF n f.qc,qF n f.a,qF n f.b,qF n f.d,qF n f.i,qF n f.j,qF n f.n,qF n f.t,qF n f.u,qF n f.v,qF n f.w,qF n f.x,qF n (fun (e:Nat)=>e),qF n f.ll,qF n f.lc]
 (U (∀(i:Nat),f.lc i=f.lc i\/f.lc i=0) (U (∀(i:Nat),upto n f.ll i<=f.lc i/\upto n f.ll i<=upto n f.ll i) (nN [(1,.pf (∀(i e:Nat),e<upto n f.ll i->f.ld i e=f.ld i e) (by intros;rfl))] k)))
abbrev lfE(Φ:Eo->Prop)(c:Cf)(p:Ep)(x:Eo):V:=U (Φ x) (nN (qE x.done::qE x.code::qE x.value::lC c p x.s []) (lX p x.s (lF p.fn p.fc x.s.f (nN [qE x.s.nc,qL x.s.ne] zw))))
abbrev g6(a0:Mm)(l:LP):LP:=qE a0.lk::qE a0.lc::qE a0.lo::qE a0.ln::l
abbrev g7(a0:Mm)(l:LP):LP:=g6 a0 (qE a0.ct::l)
abbrev g14(a0:Cf)(l:LP):LP:=qE a0.nP::qE a0.rc::qE a0.nU::qE a0.cu::l
abbrev g19(a0:Cf)(l:LP):LP:=qE a0.W::qE a0.L::qE a0.C::qE a0.T::qE a0.D::qE a0.H::qE a0.B::qE a0.A::qE a0.P::g14 a0 l
theorem vEm_eq(r:Rv)(a b d e f:Int):V.pr .z (vEm r a b d e f)=
 nN [(5,.lt 0 1)] (U (r.ne<=r.ne/\r.nc=r.nc) (U (r.ne+1<=9223372036854775807/\(r.ne+1)*40<=140737488355328) (ze Nat (fun (x:Nat)=>r.ne+1<=x) fun y0=>U (r.ne+1<=y0) (nN (g19 r.c (qE r.len::qE r.cap::g7 r.m [qE r.now,qE r.dr,qE r.rn,qE r.rc,qE (r.ne+1),qE y0,qE y0])) (U (r.ne+1<=r.ne+1) zw))))):=by kernel_rfl
abbrev g364(a0 a1:Nat)(k:V):V:=U (0<1/\a0<a1) (U (0<1/\a0<a1) k)
theorem vTp_eq(f:Fk)(n i:Nat):V.pr .z (vTp f n i)=
 g364 i n (g364 i n (g364 i n (U (O 0<=i64.wrap ((↑(f.ll i):Int)-O 1)/\i64.wrap ((↑(f.ll i):Int)-O 1)<(↑(f.ll i):Int)) (U (i<n/\0+(i64.wrap ((↑(f.ll i):Int)-O 1)).toNat<f.ll i) (U (i<n/\0+(i64.wrap ((↑(f.ll i):Int)-O 1)).toNat<f.ll i) (U (f.ld i (0+(i64.wrap ((↑(f.ll i):Int)-O 1)).toNat)=f.ld i (f.ll i-1)) (nN [qE (f.ld i (0+(i64.wrap ((↑(f.ll i):Int)-O 1)).toNat))] zw))))))):=by kernel_rfl
theorem vhEm{r:Rv}{a b d e f:Int}(h:r.ne<=1000000):zad (vEm r a b d e f):=by
 refine zad.pr (vEm_eq ..) ?_
 (with_reducible repeat' first|exact zk|refine zn ?_|refine zm ?_|refine zl ?_ ?_|refine zi ?_|refine nN_h rfl ?_|refine z9 ?_ ?_|intro _)
 all_goals first
  | omega
  | assumption
  | trivial
  | trace_state
theorem vhTp{f:Fk}{n i:Nat}(h:i<n/\1<=f.ll i/\f.ll i<=1000000):zad (vTp f n i):=by
 obtain⟨h1,h2,h3⟩:=h
 have e:i64.wrap ((f.ll i:Int)-O 1)=((f.ll i-1:Nat):Int):=by rw[w64 (by simp only[zz];omega)];simp only[zz];omega
 refine zad.pr (vTp_eq ..) ?_
 simp only[e,Int.toNat_natCast,z8]
 (with_reducible repeat' first|exact zk|refine zn ?_|refine zm ?_|refine zl ?_ ?_|refine zi ?_|refine nN_h rfl ?_|refine z9 ?_ ?_|intro _)
 all_goals first
  | omega
  | assumption
  | trivial
  | exact⟨Nat.zero_lt_one,h1⟩
  | (simp only[zz];omega)
  | trace_state
noncomputable section
def cEm:List SV->Hp->Out (SV×Hp):=fun args H=>match args with
 | .c (.ptr k _ _ _ _)::rest=>fN k fun k=>match rdRv k H.h,nums rest with
  | some (r,[k0,kc,kP,kU,kr,ke]),some [a,b,d,e,f]=>useP [k0,kP,kU,kc,kr,ke] 6 (argEm a b d e f) r.hm (.need (r.ne<=1000000) (.any Nat (fun c=>r.ne+1<=c) fun c=>.leaf (.t [],⟨[(0,(r.E (r.ne+1) c).b 1 2 3 4 6),(6,evU (r.ne+1) c)],7,fun _=>True⟩))) args H
  | _,_=>.bad 482
 | _=>.bad 481
theorem cEm_ok:zab P fEm cEm:=zac fun args H=>by
 unfold cEm
 simp only[fN_eq]
 repeat' split
 all_goals first
  | exact .inl ⟨_,rfl⟩
  | exact .inr ⟨_,_,_,_,_,rfl,zae zaj.nil fun h=>vhEm h⟩
def rowN(k:Nat)(h:HL):Option Nat:=match find k h with
 | some (.row _ _ n _)=>some n
 | some (.view _ g _)=>some (g 0)
 | _=>none
def cTp:List SV->Hp->Out (SV×Hp):=fun args H=>match args with
 | [.c (.ptr k _ i _ _)]=>fN k fun k=>match rdFk k H.h,rowN k H.h with
  | some (f,kf),some n=>useP [k,kf] 2 (argTp i.v) [(0,f.rowV 1 n),(1,f.famV n)] (.need (i.v<n/\1<=f.ll i.v/\f.ll i.v<=1000000) (.any Int (fun r=>r=f.ld i.v (f.ll i.v-1)) fun r=>.leaf (.c (i6 r),⟨[],2,fun _=>True⟩))) args H
  | _,_=>.bad 482
 | _=>.bad 481
theorem cTp_ok:zab P fTp cTp:=zac fun args H=>by
 unfold cTp
 simp only[fN_eq]
 repeat' split
 all_goals first
  | exact .inl ⟨_,rfl⟩
  | exact .inr ⟨_,_,_,_,_,rfl,zae zaj.nil fun h=>vhTp h⟩
end
noncomputable section
def vLf(con:Con)(f:FuncId)(gs:List (Nat×G))(av:AV)(c:Cf)(p:Ep)(s:Es)(i:Nat)(Φ:Eo->Prop):V:=verF P con 8 10 f ((0,.ren (renK 0))::gs) av (argLf i) ⟨s.h c p,10,fun _=>True⟩
 (finV (X:=Eo) 10 11 rdEo LEo Φ svEo (fun x=>x.s.hE c p 10))
def gPush:FuncId:=73
def gPop:FuncId:=74
def gSteal:FuncId:=75
def gClear:FuncId:=79
def gIns:FuncId:=84
def gRem:FuncId:=85
def gTab:FuncId:=86
def gClaim:FuncId:=120
def gBoost:FuncId:=87
def gSweep:FuncId:=88
def gSleep:FuncId:=89
def gWake:FuncId:=90
def gProbe:FuncId:=91
def gDrain:FuncId:=92
def gRun:FuncId:=93
def gCli:FuncId:=94
def gLeaf:FuncId:=54
def gChoose:FuncId:=107
def gEnter:FuncId:=53
def gBack:FuncId:=55
def conLf:Con:=Con.add fTp cTp (Con.add fEm cEm (Con.add fRA cWA (Con.add fIx cIw (Con.add fTw cTw (Con.add fQw cQw (Con.add fRg cRg (Con.add fMk cMk (Con.add fHi cHi (Con.add fNh cNh (Con.add fCs cCs (Con.add fBt cBt (Con.add fDr cDr (Con.add fRP xPk (Con.add fRU xRU con0))))))))))))))
theorem za0:zaj P conLf:=.add cTp_ok (.add cEm_ok (.add cWA_ok (.add cIw_ok (.add cTw_ok (.add cQw_ok (.add cRg_ok (.add cMk_ok (.add cHi_ok (.add cNh_ok (.add cCs_ok (.add cBt_ok (.add cDr_ok (.add xRP_ok (.add xRU_ok zaj.nil))))))))))))))
end
abbrev gs1(Φ:Eo->Prop)(c:Cf)(p:Ep)(s:Es)(y1:Wa)(i:Nat):V:=lfE Φ c p (Eo.mk { s with m:=y1.m,f:={ s.f with ln:=aN i (i64.wrap (s.f.ln i+O 1)) s.f.ln }} false (O 0) (O 0))
abbrev gs4(Φ:Eo->Prop)(c:Cf)(p:Ep)(s:Es)(y0:Wa)(i:Nat):V:=lfE Φ c p (Eo.mk { s with m:=y0.m,f:={ s.f with ln:=aN i (i64.wrap (s.f.ln i+O 1)) s.f.ln,v:=aN i y0.o s.f.v }} false (O 0) (O 0))
abbrev gs5(Φ:Eo->Prop)(c:Cf)(p:Ep)(s:Es)(y0:Wa)(i:Nat):V:=lfE Φ c p (Eo.mk { s with m:=y0.m,f:={ s.f with ln:=aN i (i64.wrap (s.f.ln i+O 1)) s.f.ln,u:=aN i y0.o s.f.u }} false (O 0) (O 0))
abbrev g2(a0:Nat)(a1:Ep)(k:V):V:=U (a0<a1.fn) (U (a0<a1.fn) k)
abbrev g65(a0:Nat)(a1:Ep)(k:V):V:=g2 a0 a1 (g2 a0 a1 k)
abbrev g0(a0:Nat)(a1:Ep)(k:V):V:=U (0<1/\a0<a1.fn) (U (0<1/\a0<a1.fn) k)
abbrev g66(a0:Nat)(a1:Ep)(k:V):V:=g0 a0 a1 (g0 a0 a1 k)
abbrev g79(a0:Nat)(a1:Ep)(k:V):V:=g66 a0 a1 (g0 a0 a1 k)
abbrev g93(a0:Nat)(a1:Ep)(k:V):V:=g65 a0 a1 (g2 a0 a1 k)
abbrev g102(a0:Int)(a1:Nat)(a2:Ep)(k:Wa->V):V:=nA (fun (p:Wa)=>okW p.m/\wd p.o/\(p.b=true->O 0<=a0)) fun v0=>g93 a1 a2 (k v0)
abbrev g34(a0:Cf)(a1:Ep)(a2:Mm)(l:LP):LP:=g19 a0 (qE a1.n::qE a1.cap::g7 a2 l)
abbrev g37(a0:Rk)(a1:Ep)(l:LP):LP:=qE a0.n::qE a1.rc::l
abbrev g41(a0:Es)(a1:Rk)(a2:Ep)(l:LP):LP:=qE a0.now::qE a0.dr::g37 a1 a2 l
abbrev g42(a0:Cf)(a1:Ep)(a2:Mm)(a3:Es)(a4:Rk)(l:LP):LP:=g34 a0 a1 a2 (g41 a3 a4 a1 (qE a3.ne::qE a3.nc::l))
abbrev g25(a0:Ep)(a1:Mm)(l:LP):LP:=qE a0.cap::qL a0.n::qF a0.n a1.g::l
abbrev g43(a0:Cf)(a1:Ep)(a2:Mm)(a3:Es)(a4:Rk)(l:LP):LP:=g42 a0 a1 a2 a3 a4 (g25 a1 a2 l)
abbrev g64(a0:Cf)(k:V):V:=nN [(1,.le 0 1)] (U (∀(i:Nat),i<0->0<=a0.nP) (nN [(1,.le 0 1)] (U (∀(i:Nat),i<0->0<=a0.nU) k)))
abbrev g80(a0:Cf)(a1:Ep)(a2:Mm)(a3:Es)(a4:Rk)(k:V):V:=nN (g43 a0 a1 a2 a3 a4 []) (g64 a0 k)
abbrev g10(a0:Rk)(a1:Ep)(k:V):V:=nN [(1,.le 0 1)] (U (0<=a0.n/\0<=a1.rc) k)
abbrev g81(a0:Cf)(a1:Ep)(a2:Mm)(a3:Es)(a4:Rk)(k:V):V:=g80 a0 a1 a2 a3 a4 (g10 a4 a1 k)
abbrev g16(a0:Es)(k:V):V:=nN [(1,.le 0 1)] (U (0<=a0.ne/\0<=a0.nc) k)
abbrev g89(a0:Cf)(a1:Ep)(a2:Mm)(a3:Es)(a4:Rk)(k:V):V:=g81 a0 a1 a2 a3 a4 (g16 a3 k)
abbrev g107(a0:Cf)(a1:Ep)(a2:Mm)(a3:Es)(a4:Rk)(k:V):V:=nN [(1,.eqI 0 0)] (g89 a0 a1 a2 a3 a4 k)
abbrev g73(a0:Es)(a1:Mm)(k:V):V:=g16 a0 (U (okW a1/\wd (O 0)/\wd (O 0)) k)
abbrev g139(a0:Es)(a1:Mm)(a2:Fk)(a3:Nat)(k:Wa->V):V:=g73 a0 a1 (nA (fun (p:Wa)=>okW p.m/\wd p.o/\(p.b=true->O 0<=a2.qt a3)) fun v0=>k v0)
abbrev g196(a0:Es)(a1:Mm)(a2:Fk)(a3:Nat)(k:Wa->V):V:=g73 a0 a1 (nA (fun (p:Wa)=>okW p.m/\wd p.o/\(p.b=true->O 0<=a2.qb a3)) fun v0=>k v0)
abbrev g198(a0:Fk)(a1:Nat)(k:Int->V):V:=U (a0.qc a1<=O 9223372036854775807) (nA (fun (x:Int)=>True) fun v0=>k v0)
abbrev g225(a0:Cf)(a1:Ep)(a2:Mm)(a3:Es)(a4:Rk)(k:V):V:=nN [(2,.eqI 0 0)] (g81 a0 a1 a2 a3 a4 k)
abbrev g11(a0:Nat)(a1:Ep)(k:V):V:=g2 a0 a1 (U (a0<a1.fn) k)
abbrev g17(a0:Nat)(a1:Ep)(k:V):V:=g0 a0 a1 (U (0<1/\a0<a1.fn) k)
abbrev g333(a0:Nat)(a1:Ep)(k:V):V:=g79 a0 a1 (g17 a0 a1 k)
abbrev g382(a0:Nat)(a1:Ep)(k:V):V:=g93 a0 a1 (g11 a0 a1 k)
theorem vPush_eq(c:Cf)(p:Ep)(s:Es)(i:Nat)(Φ:Eo->Prop):V.pr .z (vLf conLf gPush [] .nil c p s i Φ)=
 g11 i p (zj (s.f.ln i == O 1) (g65 i p (nN [qE (s.f.qb i)] (g225 c p s.m s s.x (g196 s s.m s.f i fun y0=>g382 i p (gs5 Φ c p s y0 i))))) (zj (s.f.ln i == O 2) (g65 i p (nN [qE (s.f.qt i)] (g225 c p s.m s s.x (g139 s s.m s.f i fun y0=>g11 i p (g66 i p (g79 i p (zj (decide (i64.wrap (u64.wrap (s.f.u i-if 0=0/\i=i then y0.o else s.f.v i)) >= s.f.qc i)) (lfE Φ c p (Eo.mk { s with m:=y0.m,f:={ s.f with v:=aN i y0.o s.f.v }} true (O 3) (O 0))) (g93 i p (gs4 Φ c p s y0 i))))))))) (zj (s.f.ln i == O 3) (g333 i p (nN [qE (s.f.qt i),qE (s.f.qb i),qE (s.f.qr i),qE (s.f.qc i),qE (s.f.u i)] (g198 s.f i fun y0=>g17 i p (nN [qE y0,qE (u64.wrap (s.f.a i))] (g107 c p s.m s s.x (U (okW s.m/\wd (u64.wrap (s.f.a i))/\wd (O 0)) (g102 y0 i p fun y1=>gs1 Φ c p s y1 i))))))) (g66 i p (g17 i p (nN [qE (s.f.qb i),qE (u64.wrap (s.f.u i+O 1))] (g107 c p s.m s s.x (U (okW s.m/\wd (u64.wrap (s.f.u i+O 1))/\wd (O 0)) (nA (fun (p:Wa)=>okW p.m/\wd p.o/\(p.b=true->O 0<=s.f.qb i)) fun y0=>lfE Φ c p (Eo.mk { s with m:=y0.m } true (O 0) (O 0))))))))))):=by kernel_rfl
abbrev g129(a0:Int)(l:LP):LP:=qE a0::(2,.eqI 0 0)::l
abbrev g18(a0:Mm)(a1:Int)(k:Wa->V):V:=U (okW a0/\wd (O 0)/\wd (O 0)) (nA (fun (p:Wa)=>okW p.m/\wd p.o/\(p.b=true->O 0<=a1)) fun v0=>k v0)
abbrev g216(a0:Int)(a1:Cf)(a2:Ep)(a3:Mm)(a4:Es)(a5:Rk)(k:Wa->V):V:=nN (g129 a0 []) (g89 a1 a2 a3 a4 a5 (g18 a3 a0 fun v0=>k v0))
abbrev gs10(i:Nat)(p:Ep)(s:Es)(c:Cf)(Φ:Eo->Prop):V:=g333 i p (nN [qE (s.f.qt i),qE (s.f.qb i),qE (s.f.qr i),qE (s.f.qc i),qE (u64.wrap (s.f.u i-O 1))] (g198 s.f i fun y0=>g216 y0 c p s.m s s.x fun y1=>lfE Φ c p (Eo.mk { s with m:=y1.m } true (O 1) (i64.wrap y1.o))))
abbrev gs9(i:Nat)(p:Ep)(Φ:Eo->Prop)(c:Cf)(s:Es)(y0:Wa):V:=g11 i p (lfE Φ c p (Eo.mk { s with m:=y0.m,f:={ s.f with ln:=aN i (i64.wrap (s.f.ln i+O 1)) s.f.ln }} false (O 0) (O 0)))
abbrev g311(a0:Mm)(a1:Fk)(a2:Nat)(k:Wa->V):V:=U (okW a0/\wd (a1.v a2)/\wd (u64.wrap (a1.v a2+O 1))) (nA (fun (p:Wa)=>okW p.m/\wd p.o/\(p.b=true->O 0<=a1.qt a2)) fun v0=>k v0)
abbrev g353(a0:Mm)(a1:Fk)(a2:Nat)(k:Wa->V):V:=U (okW a0/\wd (a1.u a2)/\wd (O 0)) (nA (fun (p:Wa)=>okW p.m/\wd p.o/\(p.b=true->O 0<=a1.qb a2)) fun v0=>k v0)
theorem vPop_eq(c:Cf)(p:Ep)(s:Es)(i:Nat)(Φ:Eo->Prop):V.pr (.b .z (.b .z (.b .z (.b .z (.b (.t .z) .z))))) (vLf conLf gPop [] .nil c p s i Φ)=
 g93 i p (zj (s.f.ln i == O 1) (g65 i p (nN [qE (s.f.qb i)] (g225 c p s.m s s.x (g196 s s.m s.f i fun y0=>g93 i p (gs5 Φ c p s y0 i))))) (zj (s.f.ln i == O 2) (g65 i p (nN [qE (s.f.qt i)] (g225 c p s.m s s.x (g139 s s.m s.f i fun y0=>g11 i p (g79 i p (zj (decide (i64.wrap (u64.wrap (s.f.u i-if 0=0/\i=i then y0.o else s.f.v i))<=O 0)) (lfE Φ c p (Eo.mk { s with m:=y0.m,f:={ s.f with v:=aN i y0.o s.f.v }} true (O 2) (O 0))) (g11 i p (gs4 Φ c p s y0 i)))))))) (zj (s.f.ln i == O 3) (g66 i p (g17 i p (nN [qE (s.f.qb i),qE (u64.wrap (s.f.u i-O 1))] (g107 c p s.m s s.x (U (okW s.m/\wd (u64.wrap (s.f.u i-O 1))/\wd (O 0)) (nA (fun (p:Wa)=>okW p.m/\wd p.o/\(p.b=true->O 0<=s.f.qb i)) fun y0=>gs9 i p Φ c s y0)))))) (zj (s.f.ln i == O 4) (g65 i p (nN [qE (s.f.qt i)] (g225 c p s.m s s.x (g139 s s.m s.f i fun y0=>g11 i p (g79 i p (zj (i64.wrap (u64.wrap (u64.wrap (s.f.u i-O 1)-if 0=0/\i=i then y0.o else s.f.v i)) == O 0) (U (i<p.fn) (U (i<p.fn) (U (i<p.fn) (lfE Φ c p (Eo.mk { s with m:=y0.m,f:={ s.f with ln:=aN i (O 6) s.f.ln,v:=aN i y0.o s.f.v }} false (O 0) (O 0)))))) (zj (decide (i64.wrap (u64.wrap (u64.wrap (s.f.u i-O 1)-if 0=0/\i=i then y0.o else s.f.v i))<O 0)) (U (i<p.fn) (U (i<p.fn) (U (i<p.fn) (lfE Φ c p (Eo.mk { s with m:=y0.m,f:={ s.f with ln:=aN i (O 9) s.f.ln,v:=aN i y0.o s.f.v }} false (O 0) (O 0)))))) (g11 i p (gs4 Φ c p s y0 i))))))))) (zj (s.f.ln i == O 5) (U ((s.f.ln i == O 5)=true) (gs10 i p s c Φ)) (zj (s.f.ln i == O 8) (gs10 i p s c Φ) (zj (s.f.ln i == O 6) (g66 i p (g79 i p (nN [qE (s.f.qt i),qE (s.f.v i),qE (u64.wrap (s.f.v i+O 1))] (g89 c p s.m s s.x (g311 s.m s.f i fun y0=>zj (!y0.b) (U (i<p.fn) (U (i<p.fn) (U (i<p.fn) (lfE Φ c p (Eo.mk { s with m:=y0.m,f:={ s.f with ln:=aN i (O 9) s.f.ln }} false (O 0) (O 0)))))) (gs9 i p Φ c s y0)))))) (zj (s.f.ln i == O 7) (g66 i p (g17 i p (nN [qE (s.f.qb i),qE (s.f.u i)] (g107 c p s.m s s.x (g353 s.m s.f i fun y0=>gs9 i p Φ c s y0))))) (g66 i p (g17 i p (nN [qE (s.f.qb i),qE (s.f.u i)] (g107 c p s.m s s.x (g353 s.m s.f i fun y0=>lfE Φ c p (Eo.mk { s with m:=y0.m } true (O 2) (O 0))))))))))))))):=by kernel_rfl
abbrev g241(a0:Nat)(a1:Ep)(k:V):V:=g0 a0 a1 (g65 a0 a1 k)
abbrev g312(a0:Nat)(a1:Ep)(k:V):V:=g241 a0 a1 (g11 a0 a1 k)
theorem vSteal_eq(c:Cf)(p:Ep)(s:Es)(i:Nat)(Φ:Eo->Prop):V.pr .z (vLf conLf gSteal [] .nil c p s i Φ)=
 g11 i p (zj (s.f.ln i == O 1) (g65 i p (nN [qE (s.f.qt i)] (g225 c p s.m s s.x (g139 s s.m s.f i fun y0=>g382 i p (gs4 Φ c p s y0 i))))) (zj (s.f.ln i == O 2) (g65 i p (nN [qE (s.f.qb i)] (g225 c p s.m s s.x (g196 s s.m s.f i fun y0=>g11 i p (g79 i p (zj (decide (i64.wrap (u64.wrap ((if 0=0/\i=i then y0.o else s.f.u i)-s.f.v i))<=O 0)) (lfE Φ c p (Eo.mk { s with m:=y0.m,f:={ s.f with u:=aN i y0.o s.f.u }} true (O 2) (O 0))) (g93 i p (gs5 Φ c p s y0 i)))))))) (zj (s.f.ln i == O 3) (g333 i p (nN [qE (s.f.qt i),qE (s.f.qb i),qE (s.f.qr i),qE (s.f.qc i),qE (s.f.v i)] (g198 s.f i fun y0=>g216 y0 c p s.m s s.x fun y1=>g312 i p (lfE Φ c p (Eo.mk { s with m:=y1.m,f:={ s.f with ln:=aN i (i64.wrap (s.f.ln i+O 1)) s.f.ln,w:=aN i y1.o s.f.w }} false (O 0) (O 0)))))) (g66 i p (g79 i p (nN [qE (s.f.qt i),qE (s.f.v i),qE (u64.wrap (s.f.v i+O 1))] (g89 c p s.m s s.x (g311 s.m s.f i fun y0=>zj y0.b (U (i<p.fn) (U (i<p.fn) (U (i<p.fn) (lfE Φ c p (Eo.mk { s with m:=y0.m } true (O 1) (i64.wrap (s.f.w i))))))) (lfE Φ c p (Eo.mk { s with m:=y0.m } true (O 4) (O 0))))))))))):=by kernel_rfl
abbrev g98(k:Int->V):V:=U True (nA (fun (r:Int)=>O 0<=r/\r<=O 18446744073709551615) fun v0=>k v0)
abbrev g105(a0:Int)(k:V):V:=U (bits BinOp.xor IntKind.u64 (if IntKind.u64.signed=true then -O 1 else IntKind.u64.max) a0=bits BinOp.xor IntKind.u64 (if IntKind.u64.signed=true then -O 1 else IntKind.u64.max) a0) (nN [(1,.eqI 0 0)] k)
abbrev g185(a0:Cf)(a1:Ep)(a2:Mm)(a3:Es)(a4:Rk)(a5:Int)(k:V):V:=g89 a0 a1 a2 a3 a4 (U (okW a2/\wd (bits BinOp.xor IntKind.u64 (if IntKind.u64.signed=true then -O 1 else IntKind.u64.max) a5)/\wd (O 0)) k)
theorem vClear_eq(c:Cf)(p:Ep)(s:Es)(i:Nat)(Φ:Eo->Prop):V.pr .z (vLf conLf gClear [] .nil c p s i Φ)=
 g11 i p (zj (s.f.ln i == O 1) (g79 i p (nN [qE (s.f.b i)] (g98 fun y0=>nN [qE (s.f.a i)] (g105 y0 (g185 c p s.m s s.x y0 (nA (fun (p:Wa)=>okW p.m/\wd p.o/\(p.b=true->O 0<=s.f.a i)) fun y1=>g93 i p (gs1 Φ c p s y1 i))))))) (zj (s.f.ln i == O 2) (g65 i p (nN [qE (s.f.qb i)] (g225 c p s.m s s.x (g196 s s.m s.f i fun y0=>g382 i p (gs5 Φ c p s y0 i))))) (zj (s.f.ln i == O 3) (g65 i p (nN [qE (s.f.qt i)] (g225 c p s.m s s.x (g139 s s.m s.f i fun y0=>g11 i p (g79 i p (zj (decide (i64.wrap (u64.wrap (s.f.u i-if 0=0/\i=i then y0.o else s.f.v i))<=O 0)) (lfE Φ c p (Eo.mk { s with m:=y0.m,f:={ s.f with v:=aN i y0.o s.f.v }} true (O 2) (O 0))) (g93 i p (gs4 Φ c p s y0 i)))))))) (g79 i p (nN [qE (s.f.b i)] (g98 fun y0=>nN [qE (s.f.a i),qE y0] (g107 c p s.m s s.x (U (okW s.m/\wd y0/\wd (O 0)) (nA (fun (p:Wa)=>okW p.m/\wd p.o/\(p.b=true->O 0<=s.f.a i)) fun y1=>lfE Φ c p (Eo.mk { s with m:=y1.m } true (O 1) (O 0))))))))))):=by kernel_rfl
abbrev g68(a0:Int)(a1:Nat)(a2:Ep)(k:Wa->V):V:=nA (fun (p:Wa)=>okW p.m/\wd p.o/\(p.b=true->O 0<=a0)) fun v0=>g11 a1 a2 (k v0)
abbrev g78(a0:Nat)(a1:Ep)(k:V):V:=nN [(13,.lt2 0 1 0 1)] (g17 a0 a1 k)
abbrev g99(k:V):V:=nN [(1,.eqI 1 1)] (U True k)
abbrev g114(a0:Es)(a1:Mm)(k:Wa->V):V:=g73 a0 a1 (nA (fun (p:Wa)=>okW p.m/\wd p.o/\(p.b=true->O 0<=O 2)) fun v0=>k v0)
abbrev g135(a0:Nat)(a1:Ep)(k:V):V:=g0 a0 a1 (U (a0<a1.fn) k)
abbrev g162(a0:Cf)(a1:Ep)(a2:Mm)(a3:Es)(a4:Rk)(k:V):V:=g107 a0 a1 a2 a3 a4 (U (okW a2/\wd (O 1)/\wd (O 0)) k)
abbrev g167(a0:Nat)(a1:Ep)(k:V):V:=g17 a0 a1 (nN [(4,.lt2 0 1 0 1)] k)
abbrev g201(a0:Fk)(a1:Nat)(a2:Cf)(k:Int->V):V:=g99 (nA (fun (r:Int)=>r=-O 1\/O 0<=a0.i a1/\a0.i a1<a2.H) fun v0=>k v0)
abbrev g345(a0:Nat)(a1:Ep)(k:V):V:=g78 a0 a1 (nN [(1,.eqI 4 4)] k)
theorem vIns_eq(c:Cf)(p:Ep)(s:Es)(i:Nat)(Φ:Eo->Prop):V.pr .z (vLf conLf gIns [] .nil c p s i Φ)=
 g93 i p (zj (s.f.ln i == O 1) (nN [(1,.eqI 2 2)] (g225 c p s.m s s.x (g114 s s.m fun y0=>g11 i p (g167 i p (zj (decide ((if 0=0/\i=i then i64.wrap y0.o else s.f.n i) >= c.H)) (lfE Φ c p (Eo.mk { s with m:=y0.m,f:={ s.f with n:=aN i (i64.wrap y0.o) s.f.n }} true (O 3) (O 0))) (g11 i p (lfE Φ c p (Eo.mk { s with m:=y0.m,f:={ s.f with ln:=aN i (i64.wrap (s.f.ln i+O 1)) s.f.ln,n:=aN i (i64.wrap y0.o) s.f.n }} false (O 0) (O 0))))))))) (zj (s.f.ln i == O 2) (g17 i p (nN [(1,.eqI 3 3),(1,.eqI 1 1)] (g162 c p s.m s s.x (nA (fun (p:Wa)=>okW p.m/\wd p.o/\(p.b=true->O 0<=O 3)) fun y0=>g17 i p (nN [qE (s.f.a i),qE (i64.wrap y0.o),qE (s.f.b i)] (zj (!pkB (s.f.a i) (i64.wrap y0.o) (s.f.b i)) (lfE Φ c p (Eo.mk { s with m:=y0.m } true (O 4) (O 0))) (g65 i p (g65 i p (g65 i p (zj (decide ((if 0=0/\i=i then s.f.n i else s.f.i i)<=O 0)) (U (i<p.fn) (U (i<p.fn) (U (i<p.fn) (lfE Φ c p (Eo.mk { s with m:=y0.m,f:={ s.f with ln:=aN i (O 5) s.f.ln,i:=aN i (s.f.n i) s.f.i,w:=aN i (pkW (s.f.a i) (i64.wrap y0.o) (s.f.b i)) s.f.w }} false (O 0) (O 0)))))) (g11 i p (lfE Φ c p (Eo.mk { s with m:=y0.m,f:={ s.f with ln:=aN i (i64.wrap (s.f.ln i+O 1)) s.f.ln,i:=aN i (s.f.n i) s.f.i,w:=aN i (pkW (s.f.a i) (i64.wrap y0.o) (s.f.b i)) s.f.w }} false (O 0) (O 0)))))))))))))) (zj (s.f.ln i == O 3) (g78 i p (nN [(1,.neI 2 0),(1,.eqI 4 4),qE (i64.wrap ((i64.wrap (s.f.i i-O 1)).tdiv (O 2))),qE c.H] (g99 (nA (fun (r:Int)=>r=-O 1\/O 0<=i64.wrap ((i64.wrap (s.f.i i-O 1)).tdiv (O 2))/\i64.wrap ((i64.wrap (s.f.i i-O 1)).tdiv (O 2))<c.H) fun y0=>g216 y0 c p s.m s s.x fun y1=>g135 i p (g79 i p (zj (decide ((if 0=0/\i=i then y1.o else s.f.x i)<=s.f.w i)) (U (i<p.fn) (U (i<p.fn) (U (i<p.fn) (lfE Φ c p (Eo.mk { s with m:=y1.m,f:={ s.f with ln:=aN i (O 5) s.f.ln,x:=aN i y1.o s.f.x }} false (O 0) (O 0)))))) (g11 i p (lfE Φ c p (Eo.mk { s with m:=y1.m,f:={ s.f with ln:=aN i (i64.wrap (s.f.ln i+O 1)) s.f.ln,x:=aN i y1.o s.f.x }} false (O 0) (O 0)))))))))) (zj (s.f.ln i == O 4) (g345 i p (nN [qE (s.f.i i),qE c.H] (g201 s.f i c fun y0=>g17 i p (nN [qE y0,qE (s.f.x i)] (g107 c p s.m s s.x (U (okW s.m/\wd (s.f.x i)/\wd (O 0)) (g68 y0 i p fun y1=>nN [(1,.neI 2 0)] (g93 i p (zj (decide ((if 0=0/\i=i then i64.wrap ((i64.wrap (s.f.i i-O 1)).tdiv (O 2)) else s.f.i i)<=O 0)) (U (i<p.fn) (U (i<p.fn) (U (i<p.fn) (lfE Φ c p (Eo.mk { s with m:=y1.m,f:={ s.f with ln:=aN i (O 5) s.f.ln,i:=aN i (i64.wrap ((i64.wrap (s.f.i i-O 1)).tdiv (O 2))) s.f.i }} false (O 0) (O 0)))))) (g11 i p (lfE Φ c p (Eo.mk { s with m:=y1.m,f:={ s.f with ln:=aN i (O 3) s.f.ln,i:=aN i (i64.wrap ((i64.wrap (s.f.i i-O 1)).tdiv (O 2))) s.f.i }} false (O 0) (O 0))))))))))))) (zj (s.f.ln i == O 5) (g345 i p (nN [qE (s.f.i i),qE c.H] (g201 s.f i c fun y0=>g17 i p (nN [qE y0,qE (s.f.w i)] (g107 c p s.m s s.x (U (okW s.m/\wd (s.f.w i)/\wd (O 0)) (g68 y0 i p fun y1=>gs1 Φ c p s y1 i))))))) (g11 i p (nN [(1,.eqI 2 2),qE (u64.wrap (i64.wrap (s.f.n i+O 1)))] (g107 c p s.m s s.x (U (okW s.m/\wd (u64.wrap (i64.wrap (s.f.n i+O 1)))/\wd (O 0)) (nA (fun (p:Wa)=>okW p.m/\wd p.o/\(p.b=true->O 0<=O 2)) fun y0=>lfE Φ c p (Eo.mk { s with m:=y0.m } true (O 0) (O 0)))))))))))):=by kernel_rfl
abbrev g47(a0:Es)(l:LP):LP:=qE a0.nc::qL a0.ne::l
abbrev g223(a0:Cf)(a1:Ep)(a2:Mm)(a3:Es)(a4:Rk)(k:Nat->V):V:=nN (g42 a0 a1 a2 a3 a4 []) (g64 a0 (nN [(1,.le 0 1)] (U (0<=a1.n/\0<=a1.cap) (g10 a4 a1 (nN (g47 a3 []) (U (a3.ne<=1000000) (nA (fun (c:Nat)=>a3.ne+1<=c) fun v0=>k v0)))))))
abbrev g376(a0:Cf)(a1:Ep)(a2:Mm)(a3:Es)(a4:Rk)(a5:Nat)(k:Nat->V):V:=g223 a0 a1 a2 a3 a4 fun v0=>g11 a5 a1 (k v0)
theorem vRem_eq(c:Cf)(p:Ep)(s:Es)(i:Nat)(Φ:Eo->Prop):V.pr .z (vLf conLf gRem [] .nil c p s i Φ)=
 g93 i p (nN [qE (s.f.u i)] (U (O 0<=s.f.u i/\s.f.u i<=O 18446744073709551615) (nA (fun (x:Int×Int)=>True) fun y0=>g11 i p (zj (s.f.ln i == O 1) (nN [(1,.eqI 2 2)] (g225 c p s.m s s.x (g114 s s.m fun y1=>g93 i p (zj (decide ((if 0=0/\i=i then i64.wrap y1.o else s.f.n i)<=O 0)) (lfE Φ c p (Eo.mk { s with m:=y1.m,f:={ s.f with n:=aN i (i64.wrap y1.o) s.f.n }} true (O 2) (O 0))) (g11 i p (lfE Φ c p (Eo.mk { s with m:=y1.m,f:={ s.f with ln:=aN i (i64.wrap (s.f.ln i+O 1)) s.f.ln,n:=aN i (i64.wrap y1.o) s.f.n }} false (O 0) (O 0)))))))) (zj (s.f.ln i == O 2) (nN [(1,.eqI 4 4),(1,.eqI 0 0),qE c.H] (g99 (nA (fun (r:Int)=>r=-O 1\/O 0<=O 0/\O 0<c.H) fun y1=>g216 y1 c p s.m s s.x fun y2=>g93 i p (lfE Φ c p (Eo.mk { s with m:=y2.m,f:={ s.f with ln:=aN i (i64.wrap (s.f.ln i+O 1)) s.f.ln,u:=aN i y2.o s.f.u }} false (O 0) (O 0)))))) (zj (s.f.ln i == O 3) (g345 i p (nN [qE (i64.wrap (s.f.n i-O 1)),qE c.H] (g99 (nA (fun (r:Int)=>r=-O 1\/O 0<=i64.wrap (s.f.n i-O 1)/\i64.wrap (s.f.n i-O 1)<c.H) fun y1=>g216 y1 c p s.m s s.x fun y2=>g241 i p (lfE Φ c p (Eo.mk { s with m:=y2.m,f:={ s.f with ln:=aN i (i64.wrap (s.f.ln i+O 1)) s.f.ln,v:=aN i y2.o s.f.v }} false (O 0) (O 0))))))) (zj (s.f.ln i == O 4) (g11 i p (nN [(1,.eqI 2 2),qE (u64.wrap (i64.wrap (s.f.n i-O 1)))] (g107 c p s.m s s.x (U (okW s.m/\wd (u64.wrap (i64.wrap (s.f.n i-O 1)))/\wd (O 0)) (nA (fun (p:Wa)=>okW p.m/\wd p.o/\(p.b=true->O 0<=O 2)) fun y1=>g11 i p (nN [(1,.eqI 13 13),qE (s.f.a i),qE (tkW (s.f.u i)),(2,.eqI 0 0)] (g376 c p y1.m s s.x i fun y2=>zj (s.f.n i == O 1) (lfE Φ c p (Eo.mk (Es.mk y1.m s.now s.dr s.x s.kc (s.ne+1) y2 s.f) true (O 1) (tkW (s.f.u i)))) (g11 i p (g79 i p (zj (decide (i64.wrap (i64.wrap (O 2*if 0=0/\i=i then O 0 else s.f.i i)+O 1)<i64.wrap (s.f.n i-O 1))) (U (i<p.fn) (U (i<p.fn) (U (i<p.fn) (lfE Φ c p (Eo.mk (Es.mk y1.m s.now s.dr s.x s.kc (s.ne+1) y2 { s.f with ln:=aN i (O 5) s.f.ln,i:=aN i (O 0) s.f.i }) false (O 0) (O 0)))))) (g11 i p (lfE Φ c p (Eo.mk (Es.mk y1.m s.now s.dr s.x s.kc (s.ne+1) y2 { s.f with ln:=aN i (O 8) s.f.ln,i:=aN i (O 0) s.f.i }) false (O 0) (O 0)))))))))))))) (zj (s.f.ln i == O 5) (g93 i p (g345 i p (U ((if 0=0/\i=i then i64.wrap (i64.wrap (O 2*s.f.i i)+O 1) else s.f.j i)=if 0=0/\i=i then i64.wrap (i64.wrap (O 2*s.f.i i)+O 1) else s.f.j i) (nN [qE c.H] (g99 (nA (fun (r:Int)=>r=-O 1\/(O 0<=if 0=0/\i=i then i64.wrap (i64.wrap (O 2*s.f.i i)+O 1) else s.f.j i)/\(if 0=0/\i=i then i64.wrap (i64.wrap (O 2*s.f.i i)+O 1) else s.f.j i)<c.H) fun y1=>g216 y1 c p s.m s s.x fun y2=>g135 i p (g79 i p (zj (decide (i64.wrap (i64.wrap (O 2*s.f.i i)+O 2) >= i64.wrap (s.f.n i-O 1))) (g79 i p (zj (decide ((if 0=0/\i=i then y2.o else s.f.w i)<s.f.v i)) (U (i<p.fn) (U (i<p.fn) (U (i<p.fn) (lfE Φ c p (Eo.mk { s with m:=y2.m,f:={ s.f with ln:=aN i (O 7) s.f.ln,j:=aN i (i64.wrap (i64.wrap (O 2*s.f.i i)+O 1)) s.f.j,w:=aN i y2.o s.f.w }} false (O 0) (O 0)))))) (g11 i p (lfE Φ c p (Eo.mk { s with m:=y2.m,f:={ s.f with ln:=aN i (O 8) s.f.ln,j:=aN i (i64.wrap (i64.wrap (O 2*s.f.i i)+O 1)) s.f.j,w:=aN i y2.o s.f.w }} false (O 0) (O 0)))))) (g11 i p (lfE Φ c p (Eo.mk { s with m:=y2.m,f:={ s.f with ln:=aN i (i64.wrap (s.f.ln i+O 1)) s.f.ln,j:=aN i (i64.wrap (i64.wrap (O 2*s.f.i i)+O 1)) s.f.j,w:=aN i y2.o s.f.w }} false (O 0) (O 0)))))))))))) (zj (s.f.ln i == O 6) (g345 i p (nN [qE (i64.wrap (i64.wrap (O 2*s.f.i i)+O 2)),qE c.H] (g99 (nA (fun (r:Int)=>r=-O 1\/O 0<=i64.wrap (i64.wrap (O 2*s.f.i i)+O 2)/\i64.wrap (i64.wrap (O 2*s.f.i i)+O 2)<c.H) fun y1=>g216 y1 c p s.m s s.x fun y2=>g11 i p (zj (decide (y2.o<s.f.w i)) (g382 i p (g79 i p (zj (decide ((if 0=0/\i=i then y2.o else s.f.w i)<s.f.v i)) (U (i<p.fn) (U (i<p.fn) (U (i<p.fn) (lfE Φ c p (Eo.mk { s with m:=y2.m,f:={ s.f with ln:=aN i (O 7) s.f.ln,j:=aN i (i64.wrap (i64.wrap (O 2*s.f.i i)+O 2)) s.f.j,w:=aN i y2.o s.f.w }} false (O 0) (O 0)))))) (g11 i p (lfE Φ c p (Eo.mk { s with m:=y2.m,f:={ s.f with ln:=aN i (O 8) s.f.ln,j:=aN i (i64.wrap (i64.wrap (O 2*s.f.i i)+O 2)) s.f.j,w:=aN i y2.o s.f.w }} false (O 0) (O 0))))))) (g79 i p (zj (decide (s.f.w i<s.f.v i)) (U (i<p.fn) (U (i<p.fn) (U (i<p.fn) (lfE Φ c p (Eo.mk { s with m:=y2.m,f:={ s.f with ln:=aN i (O 7) s.f.ln }} false (O 0) (O 0)))))) (g11 i p (lfE Φ c p (Eo.mk { s with m:=y2.m,f:={ s.f with ln:=aN i (O 8) s.f.ln }} false (O 0) (O 0))))))))))) (zj (s.f.ln i == O 7) (g345 i p (nN [qE (s.f.i i),qE c.H] (g201 s.f i c fun y1=>g17 i p (nN [qE y1,qE (s.f.w i)] (g107 c p s.m s s.x (U (okW s.m/\wd (s.f.w i)/\wd (O 0)) (g102 y1 i p fun y2=>g79 i p (zj (decide (i64.wrap (i64.wrap (O 2*if 0=0/\i=i then s.f.j i else s.f.i i)+O 1)<i64.wrap (s.f.n i-O 1))) (U (i<p.fn) (U (i<p.fn) (U (i<p.fn) (lfE Φ c p (Eo.mk { s with m:=y2.m,f:={ s.f with ln:=aN i (O 5) s.f.ln,i:=aN i (s.f.j i) s.f.i }} false (O 0) (O 0)))))) (g11 i p (lfE Φ c p (Eo.mk { s with m:=y2.m,f:={ s.f with ln:=aN i (O 8) s.f.ln,i:=aN i (s.f.j i) s.f.i }} false (O 0) (O 0)))))))))))) (g345 i p (nN [qE (s.f.i i),qE c.H] (g201 s.f i c fun y1=>g17 i p (nN [qE y1,qE (s.f.v i)] (g107 c p s.m s s.x (U (okW s.m/\wd (s.f.v i)/\wd (O 0)) (nA (fun (p:Wa)=>okW p.m/\wd p.o/\(p.b=true->O 0<=y1)) fun y2=>lfE Φ c p (Eo.mk { s with m:=y2.m } true (O 1) (tkW (s.f.u i)))))))))))))))))))):=by kernel_rfl
abbrev g60(a0:Fk)(a1:Nat)(a2:Cf)(k:Int->V):V:=U True (nA (fun (r:Int)=>r=-O 1\/O 0<=a0.b a1/\a0.b a1<a2.T) fun v0=>k v0)
abbrev g189(a0:Fk)(a1:Nat)(a2:Rk)(k:V):V:=U (O 0<=a0.b a1/\a0.b a1<(↑a2.n:Int)) (U (0<1/\0+(a0.b a1).toNat<a2.n) (U (0<1/\0+(a0.b a1).toNat<a2.n) k))
abbrev g71(a0:Cf)(l:LP):LP:=(1,.le 1 1)::(1,.pf (∀(i:Nat),i<1->a0.nP<=a0.nP) (by intros;exact Z _))::(1,.pf (∀(i e:Nat),i<1/\e<a0.nP->e=e) (by intros;rfl))::(1,.pf (∀(i e:Nat),i<1/\e<a0.nP->a0.lenP e=a0.lenP e) (by intros;rfl))::(1,.pf (∀(i e:Nat),i<1/\e<a0.nP->a0.FC e=a0.FC e) (by intros;rfl))::(1,.le 1 1)::(1,.pf (∀(i:Nat),i<1->a0.nU<=a0.nU) (by intros;exact Z _))::(1,.pf (∀(i e:Nat),i<1/\e<a0.nU->a0.uP e=a0.uP e) (by intros;rfl))::(1,.pf (∀(i e:Nat),i<1/\e<a0.nU->a0.uL e=a0.uL e) (by intros;rfl))::(1,.pf (∀(i e:Nat),i<1/\e<a0.nU->a0.uD e=a0.uD e) (by intros;rfl))::qL a0.nP::(1,.pf (∀(i:Nat),i<a0.nP->a0.lenP i<=a0.lenP i) (by intros;exact Z _))::(1,.pf (∀(i e:Nat),i<a0.nP/\e<a0.lenP i->a0.iO i e=a0.iO i e) (by intros;rfl))::(1,.pf (∀(i e:Nat),i<a0.nP/\e<a0.lenP i->a0.iA i e=a0.iA i e) (by intros;rfl))::(1,.pf (∀(i e:Nat),i<a0.nP/\e<a0.lenP i->a0.iB i e=a0.iB i e) (by intros;rfl))::l
abbrev g243(a0:Cf)(l:LP):LP:=(1,.eqI 0 0)::g71 a0 l
abbrev g298(a0:Mm)(a1:Int)(k:Wa->V):V:=U (okW a0/\wd (O 1)/\wd (O 2)) (nA (fun (p:Wa)=>okW p.m/\wd p.o/\(p.b=true->O 0<=a1)) fun v0=>k v0)
abbrev g319(a0:Fk)(a1:Nat)(a2:Rk)(k:V):V:=g189 a0 a1 a2 (U (0+(a0.b a1).toNat<a2.n) k)
abbrev g334(a0:Nat)(a1:Ep)(k:V):V:=nN [(3,.lt2 0 1 0 1)] (g17 a0 a1 k)
abbrev g291(a0:Fk)(a1:Nat)(l:LP):LP:=qE (a0.a a1)::qE (a0.b a1)::l
abbrev g378(a0:Fk)(a1:Nat)(l:LP):LP:=g291 a0 a1 ((2,.eqI 0 0)::l)
abbrev gs2(c:Cf)(s:Es)(i:Nat)(p:Ep)(Φ:Eo->Prop):V:=nN (g243 c []) (g60 s.f i c fun y0=>nN [qE y0,(1,.eqI 1 1),(1,.eqI 2 2)] (g89 c p s.m s s.x (g298 s.m y0 fun y1=>zj (!y1.b) (g79 i p (nN ((1,.eqI 15 15)::g378 s.f i []) (g223 c p y1.m s s.x fun y2=>lfE Φ c p (Eo.mk (Es.mk y1.m s.now s.dr s.x s.kc (s.ne+1) y2 s.f) true (O 4) (O 0))))) (g334 i p (g189 s.f i s.x (U (0<1/\0+(s.f.b i).toNat<s.x.n) (zj (s.x.st (0+(s.f.b i).toNat)) (g334 i p (g319 s.f i s.x (g79 i p (nN ((1,.eqI 9 9)::g378 s.f i []) (g376 c p y1.m s s.x i fun y2=>lfE Φ c p (Eo.mk (Es.mk y1.m s.now s.dr { s.x with st:=aN (0+(s.f.b i).toNat) true s.x.st } s.kc (s.ne+1) y2 s.f) true (O 1) (s.f.b i))))))) (g334 i p (g319 s.f i s.x (g79 i p (nN ((1,.eqI 5 5)::g378 s.f i []) (g376 c p y1.m s s.x i fun y2=>lfE Φ c p (Eo.mk (Es.mk y1.m s.now s.dr { s.x with st:=aN (0+(s.f.b i).toNat) true s.x.st } s.kc (s.ne+1) y2 s.f) true (O 1) (s.f.b i))))))))))))))
abbrev g262(a0:Nat)(a1:Ep)(a2:Cf)(k:V):V:=g78 a0 a1 (nN (g19 a2 []) k)
abbrev g368(a0:Nat)(a1:Ep)(a2:Cf)(a3:Fk)(k:V):V:=g262 a0 a1 a2 (nN [qE (a3.b a0)] k)
theorem vClaim_eq(c:Cf)(p:Ep)(s:Es)(i:Nat)(Φ:Eo->Prop):V.pr .z (vLf conLf gClaim [] .nil c p s i Φ)=
 g368 i p c s.f (gs2 c s i p Φ):=by kernel_rfl
abbrev g219(a0:Cf)(a1:Ep)(a2:Mm)(a3:Es)(a4:Rk)(k:V):V:=g107 a0 a1 a2 a3 a4 (U (okW a2/\wd (u64.wrap a3.now)/\wd (O 0)) k)
abbrev gs12(y0:Int)(s:Es)(c:Cf)(p:Ep)(i:Nat)(Φ:Eo->Prop):V:=nN [(3,.lt2 0 1 0 1),qE y0,qE (u64.wrap s.now)] (g219 c p s.m s s.x (g102 y0 i p fun y1=>gs1 Φ c p s y1 i))
abbrev g257(a0:Fk)(a1:Nat)(a2:Cf)(k:Int->V):V:=U True (nA (fun (r:Int)=>r=-O 1\/O 0<=a0.a a1/\a0.a a1<a2.T) fun v0=>k v0)
abbrev g265(a0:Cf)(l:LP):LP:=(1,.eqI 1 1)::g71 a0 l
abbrev g380(a0:Cf)(l:LP):LP:=(1,.eqI 4 4)::g71 a0 l
theorem vTab_eq(c:Cf)(p:Ep)(s:Es)(i:Nat)(Φ:Eo->Prop):V.pr (.b .z (.b .z (.b (.b (.b (.b .z (.t .z)) .z) .z) (.b (.b (.b .z (.f .z)) .z) .z)))) (vLf conLf gTab [] .nil c p s i Φ)=
 g11 i p (zj (s.f.kd i == O 12) (nN [(1,.eqI 0 0),(1,.eqI 1 1)] (g162 c p s.m s s.x (nA (fun (p:Wa)=>okW p.m/\wd p.o/\(p.b=true->O 0<=O 0)) fun y0=>zj (decide (i64.wrap y0.o >= O 0)) (zj (decide (i64.wrap y0.o<c.T)) (zj (decide (i64.wrap y0.o<(↑s.x.n:Int))) (lfE Φ c p (Eo.mk { s with m:=y0.m } true (O 1) (i64.wrap y0.o))) (lfE Φ c p (Eo.mk { s with m:=y0.m } true (O 3) (O 0)))) (lfE Φ c p (Eo.mk { s with m:=y0.m } true (O 3) (O 0)))) (lfE Φ c p (Eo.mk { s with m:=y0.m } true (O 3) (O 0)))))) (zj (s.f.kd i == O 14) (g368 i p c s.f (gs2 c s i p Φ)) (g11 i p (zj (s.f.kd i == O 13) (g11 i p (zj (decide (s.f.a i >= O 0)) (zj (decide (s.f.a i<c.T)) (zj (!decide (s.f.a i<(↑s.x.n:Int))) (lfE Φ c p (Eo.mk s true (O 4) (O 0))) (g11 i p (U ((s.f.kd i == O 13)=true) (g11 i p (zj (s.f.ln i == O 1) (g262 i p c (nN (qE (s.f.a i)::g265 c []) (g257 s.f i c fun y0=>g17 i p (nN [qE y0,qE (u64.wrap (s.f.b i))] (g107 c p s.m s s.x (U (okW s.m/\wd (u64.wrap (s.f.b i))/\wd (O 0)) (g102 y0 i p fun y1=>gs1 Φ c p s y1 i))))))) (zj (s.f.ln i == O 2) (g262 i p c (nN (qE (s.f.a i)::g380 c []) (g257 s.f i c fun y0=>gs12 y0 s c p i Φ))) (g262 i p c (nN (qE (s.f.a i)::g243 c []) (g257 s.f i c fun y0=>nN [qE y0,(1,.eqI 1 1)] (g162 c p s.m s s.x (nA (fun (p:Wa)=>okW p.m/\wd p.o/\(p.b=true->O 0<=y0)) fun y1=>lfE Φ c p (Eo.mk { s with m:=y1.m } true (O 0) (O 0))))))))))))) (lfE Φ c p (Eo.mk s true (O 4) (O 0)))) (lfE Φ c p (Eo.mk s true (O 4) (O 0))))) (g11 i p (zj (decide (s.f.b i >= O 0)) (zj (decide (s.f.b i<c.T)) (zj (!decide (s.f.b i<(↑s.x.n:Int))) (lfE Φ c p (Eo.mk s true (O 4) (O 0))) (g11 i p (U ((s.f.kd i == O 13)=false) (g11 i p (zj (s.f.ln i == O 1) (g368 i p c s.f (nN (g380 c []) (g60 s.f i c fun y0=>gs12 y0 s c p i Φ))) (zj (s.f.ln i == O 2) (g368 i p c s.f (nN (g243 c []) (g60 s.f i c fun y0=>nN [qE y0,(1,.eqI 1 1)] (g162 c p s.m s s.x (g102 y0 i p fun y1=>gs1 Φ c p s y1 i))))) (g368 i p c s.f (nN (g265 c []) (g60 s.f i c fun y0=>g216 y0 c p s.m s s.x fun y1=>g312 i p (lfE Φ c p (Eo.mk { s with m:=y1.m,f:={ s.f with ln:=aN i (i64.wrap (s.f.ln i+O 1)) s.f.ln,t:=aN i (i64.wrap y1.o) s.f.t }} false (O 0) (O 0)))))))))))) (lfE Φ c p (Eo.mk s true (O 4) (O 0)))) (lfE Φ c p (Eo.mk s true (O 4) (O 0))))))))):=by kernel_rfl
theorem vBoost_eq(c:Cf)(p:Ep)(s:Es)(i:Nat)(Φ:Eo->Prop):V.pr .z (vLf conLf gBoost [] .nil c p s i Φ)=
 g17 i p (zj (decide (s.f.b i >= O 0)) (zj (decide (s.f.b i<c.T)) (zj (!decide (s.f.b i<(↑s.x.n:Int))) (lfE Φ c p (Eo.mk s true (O 4) (O 0))) (g17 i p (zj (decide (s.f.d i<O 0)) (lfE Φ c p (Eo.mk s true (O 4) (O 0))) (g167 i p (zj (decide (s.f.d i >= c.L)) (lfE Φ c p (Eo.mk s true (O 4) (O 0))) (g11 i p (zj (s.f.kd i == O 16) (g11 i p (zj (s.f.ln i == O 1) (g368 i p c s.f (nN (g265 c []) (g60 s.f i c fun y0=>g216 y0 c p s.m s s.x fun y1=>g135 i p (g79 i p (zj (decide (i64.wrap (if 0=0/\i=i then y1.o else s.f.u i) >= s.f.d i)) (lfE Φ c p (Eo.mk { s with m:=y1.m,f:={ s.f with u:=aN i y1.o s.f.u }} true (O 0) (O 0))) (g11 i p (lfE Φ c p (Eo.mk { s with m:=y1.m,f:={ s.f with ln:=aN i (O 2) s.f.ln,u:=aN i y1.o s.f.u }} false (O 0) (O 0))))))))) (g368 i p c s.f (nN (g265 c []) (g60 s.f i c fun y0=>g79 i p (nN [qE y0,qE (s.f.u i),qE (u64.wrap (s.f.d i))] (g89 c p s.m s s.x (U (okW s.m/\wd (s.f.u i)/\wd (u64.wrap (s.f.d i))) (nA (fun (p:Wa)=>okW p.m/\wd p.o/\(p.b=true->O 0<=y0)) fun y1=>zj y1.b (g333 i p (nN ((1,.eqI 11 11)::g291 s.f i [(1,.eqI 0 0),qE (s.f.d i)]) (g223 c p y1.m s s.x fun y2=>lfE Φ c p (Eo.mk (Es.mk y1.m s.now s.dr s.x s.kc (s.ne+1) y2 s.f) true (O 1) (O 0))))) (g11 i p (lfE Φ c p (Eo.mk { s with m:=y1.m,f:={ s.f with ln:=aN i (O 1) s.f.ln }} false (O 0) (O 0))))))))))))) (g11 i p (zj (s.f.ln i == O 2) (g11 i p (g368 i p c s.f (nN (g243 c []) (g60 s.f i c fun y0=>g216 y0 c p s.m s s.x fun y1=>zj (y1.o == O 1) (U (i<p.fn) (U (i<p.fn) (U (i<p.fn) (lfE Φ c p (Eo.mk { s with m:=y1.m,f:={ s.f with ln:=aN i (O 3) (aN i (O 4) s.f.ln) }} false (O 0) (O 0)))))) (lfE Φ c p (Eo.mk { s with m:=y1.m,f:={ s.f with ln:=aN i (O 4) s.f.ln }} false (O 0) (O 0))))))) (g368 i p c s.f (nN ((1,.eqI 3 3)::g71 c []) (g60 s.f i c fun y0=>g216 y0 c p s.m s s.x fun y1=>zj (y1.o == O 0) (lfE Φ c p (Eo.mk { s with m:=y1.m } true (O 0) (O 0))) (g93 i p (lfE Φ c p (Eo.mk { s with m:=y1.m,f:={ s.f with ln:=aN i (O 1) s.f.ln,b:=aN i (i64.wrap (u64.wrap (y1.o-O 1))) s.f.b }} false (O 0) (O 0)))))))))))))))) (lfE Φ c p (Eo.mk s true (O 4) (O 0)))) (lfE Φ c p (Eo.mk s true (O 4) (O 0)))):=by kernel_rfl
abbrev g21(a0:Cf)(a1:Ep)(a2:Mm)(a3:Es)(a4:Rk)(k:V):V:=U ([some (SC.iv IntKind.i64 a0.W),some (SC.iv IntKind.i64 a0.L),some (SC.iv IntKind.i64 a0.C),some (SC.iv IntKind.i64 a0.T),some (SC.iv IntKind.i64 a0.D),some (SC.iv IntKind.i64 a0.H),some (SC.iv IntKind.i64 a0.B),some (SC.iv IntKind.i64 a0.A),some (SC.iv IntKind.i64 a0.P),some (SC.slc 1 (NV.k 0) (NV.k 0) 1 (NV.s a0.nP) (NV.s a0.rc)),some (SC.slc 2 (NV.k 0) (NV.k 0) 3 (NV.s a0.nU) (NV.s a0.cu)),some (SC.slc 4 (NV.k 0) (NV.k 0) 1 (NV.s a1.n) (NV.s a1.cap)),some (SC.iv IntKind.i64 a2.lk),some (SC.iv IntKind.i64 a2.lc),some (SC.iv IntKind.u64 a2.lo),some (SC.iv IntKind.u64 a2.ln),some (SC.iv IntKind.i64 a2.ct),some (SC.iv IntKind.i64 a3.now),some (SC.iv IntKind.i64 a3.dr),some (SC.slc 5 (NV.k 0) (NV.k 0) 7 (NV.s a4.n) (NV.s a1.rc)),some (SC.slc 10 (NV.k 0) (NV.k 0) 5 (NV.s a3.ne) (NV.s a3.nc))][0]?.join=some (SC.iv IntKind.i64 a0.W)) (U ([some (SC.iv IntKind.i64 a0.W),some (SC.iv IntKind.i64 a0.L),some (SC.iv IntKind.i64 a0.C),some (SC.iv IntKind.i64 a0.T),some (SC.iv IntKind.i64 a0.D),some (SC.iv IntKind.i64 a0.H),some (SC.iv IntKind.i64 a0.B),some (SC.iv IntKind.i64 a0.A),some (SC.iv IntKind.i64 a0.P),some (SC.slc 1 (NV.k 0) (NV.k 0) 1 (NV.s a0.nP) (NV.s a0.rc)),some (SC.slc 2 (NV.k 0) (NV.k 0) 3 (NV.s a0.nU) (NV.s a0.cu)),some (SC.slc 4 (NV.k 0) (NV.k 0) 1 (NV.s a1.n) (NV.s a1.cap)),some (SC.iv IntKind.i64 a2.lk),some (SC.iv IntKind.i64 a2.lc),some (SC.iv IntKind.u64 a2.lo),some (SC.iv IntKind.u64 a2.ln),some (SC.iv IntKind.i64 a2.ct),some (SC.iv IntKind.i64 a3.now),some (SC.iv IntKind.i64 a3.dr),some (SC.slc 5 (NV.k 0) (NV.k 0) 7 (NV.s a4.n) (NV.s a1.rc)),some (SC.slc 10 (NV.k 0) (NV.k 0) 5 (NV.s a3.ne) (NV.s a3.nc))][0]?.join=some (SC.iv IntKind.i64 a0.W)) k)
abbrev g82(a0:Cf)(a1:Ep)(a2:Mm)(a3:Es)(a4:Rk)(k:V):V:=g21 a0 a1 a2 a3 a4 (U ([some (SC.iv IntKind.i64 a0.W),some (SC.iv IntKind.i64 a0.L),some (SC.iv IntKind.i64 a0.C),some (SC.iv IntKind.i64 a0.T),some (SC.iv IntKind.i64 a0.D),some (SC.iv IntKind.i64 a0.H),some (SC.iv IntKind.i64 a0.B),some (SC.iv IntKind.i64 a0.A),some (SC.iv IntKind.i64 a0.P),some (SC.slc 1 (NV.k 0) (NV.k 0) 1 (NV.s a0.nP) (NV.s a0.rc)),some (SC.slc 2 (NV.k 0) (NV.k 0) 3 (NV.s a0.nU) (NV.s a0.cu)),some (SC.slc 4 (NV.k 0) (NV.k 0) 1 (NV.s a1.n) (NV.s a1.cap)),some (SC.iv IntKind.i64 a2.lk),some (SC.iv IntKind.i64 a2.lc),some (SC.iv IntKind.u64 a2.lo),some (SC.iv IntKind.u64 a2.ln),some (SC.iv IntKind.i64 a2.ct),some (SC.iv IntKind.i64 a3.now),some (SC.iv IntKind.i64 a3.dr),some (SC.slc 5 (NV.k 0) (NV.k 0) 7 (NV.s a4.n) (NV.s a1.rc)),some (SC.slc 10 (NV.k 0) (NV.k 0) 5 (NV.s a3.ne) (NV.s a3.nc))][0]?.join=some (SC.iv IntKind.i64 a0.W)) k)
theorem vSweep_eq(c:Cf)(p:Ep)(s:Es)(i:Nat)(Φ:Eo->Prop):V.pr .z (vLf conLf gSweep [] .nil c p s i Φ)=
 g11 i p (zj (decide (s.f.b i >= O 0)) (zj (decide (s.f.b i<c.T)) (zj (!decide (s.f.b i<(↑s.x.n:Int))) (lfE Φ c p (Eo.mk s true (O 0) (O 0))) (zj (c.A == O 0) (lfE Φ c p (Eo.mk s true (O 0) (O 0))) (g11 i p (zj (s.f.ln i == O 1) (g368 i p c s.f (nN (g243 c []) (g60 s.f i c fun y0=>g216 y0 c p s.m s s.x fun y1=>zj (y1.o != O 1) (lfE Φ c p (Eo.mk { s with m:=y1.m } true (O 0) (O 0))) (g93 i p (gs1 Φ c p s y1 i))))) (zj (s.f.ln i == O 2) (nN [(16,.lt2 0 1 0 1)] (g17 i p (nN (g19 c (qE (s.f.b i)::g380 c [])) (g60 s.f i c fun y0=>g216 y0 c p s.m s s.x fun y1=>nN [(4,.lt2 0 1 0 1)] (g21 c p y1.m s s.x (U ([some (SC.iv IntKind.i64 c.W),some (SC.iv IntKind.i64 c.L),some (SC.iv IntKind.i64 c.C),some (SC.iv IntKind.i64 c.T),some (SC.iv IntKind.i64 c.D),some (SC.iv IntKind.i64 c.H),some (SC.iv IntKind.i64 c.B),some (SC.iv IntKind.i64 c.A),some (SC.iv IntKind.i64 c.P),some (SC.slc 1 (NV.k 0) (NV.k 0) 1 (NV.s c.nP) (NV.s c.rc)),some (SC.slc 2 (NV.k 0) (NV.k 0) 3 (NV.s c.nU) (NV.s c.cu)),some (SC.slc 4 (NV.k 0) (NV.k 0) 1 (NV.s p.n) (NV.s p.cap)),some (SC.iv IntKind.i64 y1.m.lk),some (SC.iv IntKind.i64 y1.m.lc),some (SC.iv IntKind.u64 y1.m.lo),some (SC.iv IntKind.u64 y1.m.ln),some (SC.iv IntKind.i64 y1.m.ct),some (SC.iv IntKind.i64 s.now),some (SC.iv IntKind.i64 s.dr),some (SC.slc 5 (NV.k 0) (NV.k 0) 7 (NV.s s.x.n) (NV.s p.rc)),some (SC.slc 10 (NV.k 0) (NV.k 0) 5 (NV.s s.ne) (NV.s s.nc))][17]?.join=some (SC.iv IntKind.i64 s.now)) (g82 c p y1.m s s.x (U ([some (SC.iv IntKind.i64 c.W),some (SC.iv IntKind.i64 c.L),some (SC.iv IntKind.i64 c.C),some (SC.iv IntKind.i64 c.T),some (SC.iv IntKind.i64 c.D),some (SC.iv IntKind.i64 c.H),some (SC.iv IntKind.i64 c.B),some (SC.iv IntKind.i64 c.A),some (SC.iv IntKind.i64 c.P),some (SC.slc 1 (NV.k 0) (NV.k 0) 1 (NV.s c.nP) (NV.s c.rc)),some (SC.slc 2 (NV.k 0) (NV.k 0) 3 (NV.s c.nU) (NV.s c.cu)),some (SC.slc 4 (NV.k 0) (NV.k 0) 1 (NV.s p.n) (NV.s p.cap)),some (SC.iv IntKind.i64 y1.m.lk),some (SC.iv IntKind.i64 y1.m.lc),some (SC.iv IntKind.u64 y1.m.lo),some (SC.iv IntKind.u64 y1.m.ln),some (SC.iv IntKind.i64 y1.m.ct),some (SC.iv IntKind.i64 s.now),some (SC.iv IntKind.i64 s.dr),some (SC.slc 5 (NV.k 0) (NV.k 0) 7 (NV.s s.x.n) (NV.s p.rc)),some (SC.slc 10 (NV.k 0) (NV.k 0) 5 (NV.s s.ne) (NV.s s.nc))][7]?.join=some (SC.iv IntKind.i64 c.A)) (zj (decide (i64.wrap (s.now-i64.wrap y1.o)<c.A)) (lfE Φ c p (Eo.mk { s with m:=y1.m } true (O 0) (O 0))) (g93 i p (gs1 Φ c p s y1 i))))))))))) (zj (s.f.ln i == O 3) (g368 i p c s.f (nN (g265 c []) (g60 s.f i c fun y0=>g216 y0 c p s.m s s.x fun y1=>g312 i p (g167 i p (zj (decide (i64.wrap (if 0=0/\i=i then y1.o else s.f.u i) >= i64.wrap (c.L-O 1))) (lfE Φ c p (Eo.mk { s with m:=y1.m,f:={ s.f with t:=aN i (i64.wrap (i64.wrap (if 0=0/\i=i then y1.o else s.f.u i)+O 1)) s.f.t,u:=aN i y1.o s.f.u }} true (O 0) (O 0))) (g93 i p (lfE Φ c p (Eo.mk { s with m:=y1.m,f:={ s.f with ln:=aN i (i64.wrap (s.f.ln i+O 1)) s.f.ln,t:=aN i (i64.wrap (i64.wrap (if 0=0/\i=i then y1.o else s.f.u i)+O 1)) s.f.t,u:=aN i y1.o s.f.u }} false (O 0) (O 0))))))))) (zj (s.f.ln i == O 4) (g368 i p c s.f (nN (g265 c []) (g60 s.f i c fun y0=>g79 i p (nN [qE y0,qE (s.f.u i),qE (u64.wrap (s.f.u i+O 1))] (g89 c p s.m s s.x (U (okW s.m/\wd (s.f.u i)/\wd (u64.wrap (s.f.u i+O 1))) (nA (fun (p:Wa)=>okW p.m/\wd p.o/\(p.b=true->O 0<=y0)) fun y1=>zj (!y1.b) (lfE Φ c p (Eo.mk { s with m:=y1.m } true (O 4) (O 0))) (g333 i p (nN ((1,.eqI 12 12)::g291 s.f i [(1,.eqI 0 0),qE (s.f.t i)]) (g223 c p y1.m s s.x fun y2=>g93 i p (lfE Φ c p (Eo.mk (Es.mk y1.m s.now s.dr s.x s.kc (s.ne+1) y2 { s.f with ln:=aN i (i64.wrap (s.f.ln i+O 1)) s.f.ln }) false (O 0) (O 0))))))))))))) (g368 i p c s.f (nN (g380 c []) (g60 s.f i c fun y0=>gs12 y0 s c p i Φ)))))))))) (lfE Φ c p (Eo.mk s true (O 0) (O 0)))) (lfE Φ c p (Eo.mk s true (O 0) (O 0)))):=by kernel_rfl
abbrev gs13(c:Cf)(p:Ep)(y3:Wa)(s:Es)(i:Nat)(Φ:Eo->Prop):V:=g376 c p y3.m s s.x i fun y4=>lfE Φ c p (Eo.mk (Es.mk y3.m s.now s.dr s.x s.kc (s.ne+1) y4 { s.f with ln:=aN i (i64.wrap (s.f.ln i+O 1)) s.f.ln }) false (O 0) (O 0))
abbrev g125(a0:Nat)(a1:Ep)(a2:Cf)(k:V):V:=g78 a0 a1 (nN [qE (i64.wrap (i64.wrap (i64.wrap (O 4+a2.H)+a2.C)+a2.W))] k)
abbrev g143(a0:Fk)(a1:Nat)(a2:Cf)(k:Int->V):V:=g99 (nA (fun (r:Int)=>r=-O 1\/O 0<=a0.a a1/\a0.a a1<a2.W) fun v0=>k v0)
abbrev g266(a0:Int)(a1:Cf)(k:Int->V):V:=g99 (nA (fun (r:Int)=>r=-O 1\/O 0<=a0/\a0<a1.C) fun v0=>k v0)
abbrev g309(a0:Nat)(a1:Ep)(a2:Cf)(k:V):V:=g78 a0 a1 (nN [qE (i64.wrap (i64.wrap (O 4+a2.H)+a2.C))] k)
abbrev g351(l:LP):LP:=(1,.eqI 1 1)::(1,.eqI 0 0)::l
theorem vSleep_eq(c:Cf)(p:Ep)(s:Es)(i:Nat)(Φ:Eo->Prop):V.pr .z (vLf conLf gSleep [] .nil c p s i Φ)=
 g78 i p (nN [(4,.lt2 0 1 0 1),qE (s.f.a i),qE c.C] (U (c.C<=O 9223372036854775807) (nN [qX (dr (s.f.a i) c.C)] (ze Int (fun (r:Int)=>r=dr (s.f.a i) c.C) fun y0=>nN [qE (i64.wrap (O 4+c.H)),qE y0,qE c.C] (g266 y0 c fun y1=>g93 i p (zj (s.f.ln i == O 1) (g309 i p c (nN [qE (s.f.a i),qE c.W] (g143 s.f i c fun y2=>g216 y2 c p s.m s s.x fun y3=>g241 i p (lfE Φ c p (Eo.mk { s with m:=y3.m,f:={ s.f with ln:=aN i (i64.wrap (s.f.ln i+O 1)) s.f.ln,u:=aN i y3.o s.f.u }} false (O 0) (O 0)))))) (zj (s.f.ln i == O 2) (g11 i p (nN [qE (s.f.a i)] (g98 fun y2=>nN [qE y1,qE y2] (g107 c p s.m s s.x (U (okW s.m/\wd y2/\wd (O 0)) (g68 y1 i p fun y3=>lfE Φ c p (Eo.mk { s with m:=y3.m,f:={ s.f with ln:=aN i (i64.wrap (s.f.ln i+O 1)) s.f.ln }} false (O 0) (O 0)))))))) (zj (s.f.ln i == O 3) (g11 i p (nN [(1,.eqI 2 2)] (g225 c p s.m s s.x (g114 s s.m fun y2=>zj (y2.o != O 0) (U (i<p.fn) (U (i<p.fn) (U (i<p.fn) (lfE Φ c p (Eo.mk { s with m:=y2.m,f:={ s.f with ln:=aN i (O 7) s.f.ln,n:=aN i (O 0) s.f.n }} false (O 0) (O 0)))))) (g11 i p (lfE Φ c p (Eo.mk { s with m:=y2.m,f:={ s.f with ln:=aN i (i64.wrap (s.f.ln i+O 1)) s.f.ln,n:=aN i (O 0) s.f.n }} false (O 0) (O 0)))))))) (zj (s.f.ln i == O 4) (g125 i p c (nN [qE (s.f.n i),qE c.W] (g99 (nA (fun (r:Int)=>r=-O 1\/O 0<=s.f.n i/\s.f.n i<c.W) fun y2=>g216 y2 c p s.m s s.x fun y3=>g93 i p (zj (y3.o != O 0) (U (i<p.fn) (U (i<p.fn) (U (i<p.fn) (lfE Φ c p (Eo.mk { s with m:=y3.m,f:={ s.f with ln:=aN i (O 7) s.f.ln,n:=aN i (i64.wrap (s.f.n i+O 1)) s.f.n }} false (O 0) (O 0)))))) (g167 i p (zj (decide ((if 0=0/\i=i then i64.wrap (s.f.n i+O 1) else s.f.n i)<c.W)) (U (i<p.fn) (U (i<p.fn) (U (i<p.fn) (lfE Φ c p (Eo.mk { s with m:=y3.m,f:={ s.f with ln:=aN i (O 4) s.f.ln,n:=aN i (i64.wrap (s.f.n i+O 1)) s.f.n }} false (O 0) (O 0)))))) (g11 i p (nN [(1,.eqI 16 16),qE (s.f.a i),(3,.eqI 0 0)] (g223 c p y3.m s s.x fun y4=>g93 i p (lfE Φ c p (Eo.mk (Es.mk y3.m s.now s.dr s.x s.kc (s.ne+1) y4 { s.f with ln:=aN i (i64.wrap (s.f.ln i+O 1)) s.f.ln,n:=aN i (i64.wrap (s.f.n i+O 1)) s.f.n,t:=aN i s.now s.f.t }) false (O 0) (O 0))))))))))))) (zj (s.f.ln i == O 5) (g309 i p c (nN [qE (s.f.a i),qE c.W] (g143 s.f i c fun y2=>g216 y2 c p s.m s s.x fun y3=>g11 i p (zj (y3.o != s.f.u i) (g11 i p (nN ((1,.eqI 17 17)::qE (s.f.a i)::(1,.eqI 0 0)::g351 []) (gs13 c p y3 s i Φ))) (nN [(3,.lt2 0 1 0 1)] (g167 i p (zj (decide (i64.wrap (s.now-s.f.t i) >= c.P)) (g11 i p (nN [(1,.eqI 17 17),qE (s.f.a i),(1,.eqI 0 0),(1,.eqI 2 2),(1,.eqI 0 0)] (gs13 c p y3 s i Φ))) (g11 i p (lfE Φ c p (Eo.mk { s with m:=y3.m,f:={ s.f with ln:=aN i (O 5) s.f.ln }} false (O 0) (O 0))))))))))) (g11 i p (nN [qE (s.f.a i)] (g98 fun y2=>nN [qE y1] (g105 y2 (g185 c p s.m s s.x y2 (g68 y1 i p fun y3=>zj (s.f.ln i == O 6) (lfE Φ c p (Eo.mk { s with m:=y3.m } true (O 1) (O 0))) (lfE Φ c p (Eo.mk { s with m:=y3.m } true (O 5) (O 0))))))))))))))))))):=by kernel_rfl
abbrev g217(k:Int->V):V:=U True (nA (fun (r:Int)=>-O 1<=r/\r<=O 63) fun v0=>k v0)
abbrev g313(a0:Cf)(l:LP):LP:=qE a0.L::qE a0.C::l
theorem vWake_eq(c:Cf)(p:Ep)(s:Es)(i:Nat)(Φ:Eo->Prop):V.pr .z (vLf conLf gWake [] .nil c p s i Φ)=
 g17 i p (nN ((8,.lt2 0 1 0 1)::qE (s.f.b i)::g313 c []) (U True (nA (fun (x:Int)=>True) fun y0=>g167 i p (nN [qE (i64.wrap (y0+s.f.j i)),qE c.C] (U (c.C<=O 9223372036854775807) (nN [qX (dr (i64.wrap (y0+s.f.j i)) c.C)] (ze Int (fun (r:Int)=>r=dr (i64.wrap (y0+s.f.j i)) c.C) fun y1=>g11 i p (zj (s.f.ln i == O 1) (nN [qE (i64.wrap (O 4+c.H)),qE y1,qE c.C] (g266 y1 c fun y2=>g216 y2 c p s.m s s.x fun y3=>zj (y3.o != O 0) (nN [qE y3.o,(1,.eqI 0 0)] (g217 fun y4=>g93 i p (lfE Φ c p (Eo.mk { s with m:=y3.m,f:={ s.f with ln:=aN i (O 2) s.f.ln,n:=aN i y4 s.f.n }} false (O 0) (O 0))))) (g93 i p (g167 i p (zj (decide ((if 0=0/\i=i then i64.wrap (s.f.j i+O 1) else s.f.j i) >= c.C)) (lfE Φ c p (Eo.mk { s with m:=y3.m,f:={ s.f with j:=aN i (i64.wrap (s.f.j i+O 1)) s.f.j }} true (O 2) (O 0))) (lfE Φ c p (Eo.mk { s with m:=y3.m,f:={ s.f with j:=aN i (i64.wrap (s.f.j i+O 1)) s.f.j }} false (O 0) (O 0)))))))) (zj (s.f.ln i == O 2) (nN [(13,.lt2 0 1 0 1),qE (i64.wrap (O 4+c.H)),qE y1,qE c.C] (g266 y1 c fun y2=>g17 i p (nN [qE (s.f.n i)] (g98 fun y3=>nN [qE y2] (g105 y3 (g185 c p s.m s s.x y3 (g68 y2 i p fun y4=>nN [qE y4.o,qE (s.f.n i)] (U True (nA (fun (x_1111:Bool)=>True) fun y5=>zj (!y5) (lfE Φ c p (Eo.mk { s with m:=y4.m } true (O 4) (O 0))) (g11 i p (lfE Φ c p (Eo.mk { s with m:=y4.m,f:={ s.f with ln:=aN i (O 3) s.f.ln }} false (O 0) (O 0))))))))))))) (g309 i p c (nN [qE (s.f.n i),qE c.W] (g99 (nA (fun (r:Int)=>r=-O 1\/O 0<=s.f.n i/\s.f.n i<c.W) fun y2=>nN [qE y2,(1,.eqI 1 1)] (g162 c p s.m s s.x (nA (fun (p:Wa)=>okW p.m/\wd p.o/\(p.b=true->O 0<=y2)) fun y3=>g79 i p (nN [(1,.eqI 18 18),qE (s.f.a i),(1,.eqI 0 0),qE (s.f.n i),(1,.eqI 0 0)] (g376 c p y3.m s s.x i fun y4=>lfE Φ c p (Eo.mk (Es.mk y3.m s.now s.dr s.x s.kc (s.ne+1) y4 s.f) true (O 1) (s.f.n i))))))))))))))))))):=by kernel_rfl
abbrev g187(a0:Fk)(a1:Nat)(a2:Cf)(k:Int->V):V:=U True (nA (fun (r:Int)=>r=-O 1\/O 0<=a0.n a1/\a0.n a1<a2.T) fun v0=>k v0)
theorem vDrain_eq(c:Cf)(p:Ep)(s:Es)(i:Nat)(Φ:Eo->Prop):V.pr .z (vLf conLf gDrain [] .nil c p s i Φ)=
 g11 i p (zj (s.f.ln i == O 1) (nN [(1,.eqI 2 2)] (g225 c p s.m s s.x (g114 s s.m fun y0=>zj (decide (i64.wrap y0.o<=O 0)) (lfE Φ c p (Eo.mk { s with m:=y0.m } true (O 2) (O 0))) (g11 i p (lfE Φ c p (Eo.mk { s with m:=y0.m,f:={ s.f with ln:=aN i (O 2) s.f.ln }} false (O 0) (O 0))))))) (g262 i p c (nN (qE (s.f.n i)::g265 c []) (g187 s.f i c fun y0=>g216 y0 c p s.m s s.x fun y1=>g241 i p (lfE Φ c p (Eo.mk { s with m:=y1.m,f:={ s.f with ln:=aN i (O 5) s.f.ln,t:=aN i (i64.wrap y1.o) s.f.t }} false (O 0) (O 0))))))):=by kernel_rfl
abbrev g113(a0:Fk)(a1:Nat)(a2:Cf)(k:V):V:=U (0<1/\0+(a0.i a1).toNat<a2.nU) (U (0<1/\0+(a0.i a1).toNat<a2.nU) k)
abbrev g320(a0:Fk)(a1:Nat)(a2:Cf)(k:V):V:=U (O 0<=a0.i a1/\a0.i a1<(↑a2.nU:Int)) (g113 a0 a1 a2 k)
abbrev g377(a0:Nat)(a1:Ep)(k:V):V:=nN [(4,.lt2 0 1 0 1)] (g17 a0 a1 k)
theorem vCli_eq(c:Cf)(p:Ep)(s:Es)(i:Nat)(Φ:Eo->Prop):V.pr .z (vLf conLf gCli [] .nil c p s i Φ)=
 g167 i p (zj (decide (s.f.i i >= (↑c.nU:Int))) (lfE Φ c p (Eo.mk s true (O 0) (O 0))) (g377 i p (g320 s.f i c (g113 s.f i c (g93 i p (zj (s.f.ln i == O 2) (g11 i p (nN [(1,.eqI 2 2)] (g225 c p s.m s s.x (g114 s s.m fun y0=>nN [(4,.lt2 0 1 0 1)] (g82 c p y0.m s s.x (U ([some (SC.iv IntKind.i64 c.W),some (SC.iv IntKind.i64 c.L),some (SC.iv IntKind.i64 c.C),some (SC.iv IntKind.i64 c.T),some (SC.iv IntKind.i64 c.D),some (SC.iv IntKind.i64 c.H),some (SC.iv IntKind.i64 c.B),some (SC.iv IntKind.i64 c.A),some (SC.iv IntKind.i64 c.P),some (SC.slc 1 (NV.k 0) (NV.k 0) 1 (NV.s c.nP) (NV.s c.rc)),some (SC.slc 2 (NV.k 0) (NV.k 0) 3 (NV.s c.nU) (NV.s c.cu)),some (SC.slc 4 (NV.k 0) (NV.k 0) 1 (NV.s p.n) (NV.s p.cap)),some (SC.iv IntKind.i64 y0.m.lk),some (SC.iv IntKind.i64 y0.m.lc),some (SC.iv IntKind.u64 y0.m.lo),some (SC.iv IntKind.u64 y0.m.ln),some (SC.iv IntKind.i64 y0.m.ct),some (SC.iv IntKind.i64 s.now),some (SC.iv IntKind.i64 s.dr),some (SC.slc 5 (NV.k 0) (NV.k 0) 7 (NV.s s.x.n) (NV.s p.rc)),some (SC.slc 10 (NV.k 0) (NV.k 0) 5 (NV.s s.ne) (NV.s s.nc))][5]?.join=some (SC.iv IntKind.i64 c.H)) (zj (decide (i64.wrap y0.o >= c.H)) (g377 i p (nN [(1,.eqI 2 2),qE c.W,(1,.eqI 0 0),qE (s.f.i i),(1,.eqI 1 1)] (g376 c p y0.m s s.x i fun y1=>lfE Φ c p (Eo.mk (Es.mk y0.m s.now s.dr s.x s.kc (s.ne+1) y1 { s.f with ln:=aN i (O 8) s.f.ln,b:=aN i (O 0) s.f.b }) false (O 0) (O 0))))) (g11 i p (lfE Φ c p (Eo.mk { s with m:=y0.m,f:={ s.f with ln:=aN i (i64.wrap (s.f.ln i+O 1)) s.f.ln,b:=aN i (O 0) s.f.b }} false (O 0) (O 0))))))))))) (zj (s.f.ln i == O 4) (g262 i p c (nN (qE (s.f.n i)::g265 c []) (g187 s.f i c fun y0=>nN [(2,.lt2 0 1 0 1),qE y0,qE (u64.wrap (c.uL (0+(s.f.i i).toNat)))] (g107 c p s.m s s.x (U (okW s.m/\wd (u64.wrap (c.uL (0+(s.f.i i).toNat)))/\wd (O 0)) (g68 y0 i p fun y1=>gs1 Φ c p s y1 i)))))) (zj (s.f.ln i == O 5) (g262 i p c (nN (qE (s.f.n i)::g380 c []) (g187 s.f i c fun y0=>nN [(3,.lt2 0 1 0 1),qE y0,qE (u64.wrap s.now)] (g219 c p s.m s s.x (g68 y0 i p fun y1=>gs1 Φ c p s y1 i))))) (g262 i p c (nN (qE (s.f.n i)::g243 c []) (g187 s.f i c fun y0=>nN [qE y0,(1,.eqI 1 1)] (g162 c p s.m s s.x (g68 y0 i p fun y1=>gs1 Φ c p s y1 i))))))))))))):=by kernel_rfl
structure okE (b:Nat) (c:Cf) (p:Ep) (s:Es):Prop where
 m:okW s.m
 n:s.x.n=c.T.toNat
 kl:∀e,s.x.kl e<=b
 kc:∀e,e<s.x.n->s.x.kl e<=s.kc e
 ne:s.ne<=b
 nc:s.ne<=s.nc
 ll:∀e,s.f.ll e<=b
 lc:∀e,e<p.fn->s.f.ll e<=s.f.lc e
 u:∀e,wd (s.f.u e)
 v:∀e,wd (s.f.v e)
 w:∀e,wd (s.f.w e)
 x:∀e,wd (s.f.x e)
 q:∀e,s.f.qc e<=9223372036854775807
structure okQ (c:Cf) (p:Ep) (s:Es):Prop where
 m:okW s.m
 n:s.x.n=c.T.toNat
 kc:∀e,e<s.x.n->s.x.kl e<=s.kc e
 nc:s.ne<=s.nc
 lc:∀e,e<p.fn->s.f.ll e<=s.f.lc e
 u:∀e,wd (s.f.u e)
 v:∀e,wd (s.f.v e)
 w:∀e,wd (s.f.w e)
 x:∀e,wd (s.f.x e)
 q:∀e,s.f.qc e<=9223372036854775807
structure gr (s s':Es):Prop where
 ne:s'.ne<=s.ne+3
 kl:∀e,s'.x.kl e<=s.x.kl e+1
 ll:∀e,s'.f.ll e<=s.f.ll e+1
theorem okQ.gr{b:Nat}{c:Cf}{p:Ep}{s s':Es}(h:okQ c p s')(hs:okE b c p s)(hg:gr s s'):okE (b+3) c p s':=
 ⟨h.m,h.n,fun e=>by have:=hs.kl e;have:=hg.kl e;omega,h.kc,by have:=hs.ne;have:=hg.ne;omega,h.nc,fun e=>by have:=hs.ll e;have:=hg.ll e;omega,h.lc,h.u,h.v,h.w,h.x,h.q⟩
structure stA (i:Nat) (s s':Es):Prop where
 xn:s'.x.n=s.x.n
 xp:s'.x.p=s.x.p
 xc:s'.x.pc=s.x.pc
 xk:s'.x.kl=s.x.kl
 kc:s'.kc=s.kc
 kd:s'.f.kd=s.f.kd
 ll:s'.f.ll=s.f.ll
 lc:s'.f.lc=s.f.lc
 ld:s'.f.ld=s.f.ld
 ln:∀e,e≠i->s'.f.ln e=s.f.ln e
 fi:∀e,e≠i->s'.f.i e=s.f.i e
 now:s'.now=s.now
def ΦA(b:Nat)(c:Cf)(p:Ep)(s:Es)(i:Nat)(x:Eo):Prop:=okQ c p x.s/\gr s x.s/\stA i s x.s
def ΦT(b:Nat)(c:Cf)(p:Ep)(s:Es)(i:Nat)(x:Eo):Prop:=ΦA b c p s i x/\(s.f.kd i=12->x.done=true/\(x.code=3\/(0<=x.value/\x.value<c.T)))
def ΦC(b:Nat)(c:Cf)(p:Ep)(s:Es)(i:Nat)(x:Eo):Prop:=ΦA b c p s i x/\x.s.f.i=s.f.i
theorem okD{c:Cf}(h:okY c):c.D<=64/\c.C<=9223372036854775807/\c.W<=9223372036854775807/\1<=c.W/\0<=c.T:=by
 unfold okY at h
 omega
theorem up_w{i:Nat}{f:Nat->Int}{v:Int}(h:∀e,wd (f e))(hv:wd v):∀e,wd (if 0=0/\e=i then v else f e):=fun e=>by
 split
 ·exact hv
 ·exact h e
theorem up_n{i:Nat}{f:Nat->Int}{v:Int}:∀e,e≠i->(if 0=0/\e=i then v else f e)=f e:=fun e he=>if_neg fun h=>he h.2
theorem z_w:wd (O 0):=⟨Int.le_refl 0,(by decide:(0:Int)<=18446744073709551615)⟩
theorem pkW_ok'(d a t:Int):wd (pkW d a t):=by
 unfold pkW
 cases h:pkB d a t with
 | false=>exact z_w
 | true=>
  have:=of_decide_eq_true h
  show 0<=d*1099511627776+a*65536+t/\d*1099511627776+a*65536+t<=18446744073709551615
  omega
theorem lit_w{n:Nat}(h:n<=18446744073709551615):wd (O n):=⟨zp n,Int.ofNat_le.2 h⟩
theorem ex_w:∃x:Int,O 0<=x/\x<=O 18446744073709551615:=⟨0,z_w⟩
theorem ex_wa{q:Prop}:∃x:Wa,okW x.m/\wd x.o/\(x.b=true->q):=⟨⟨⟨fun _=>0,0,0,0,0,0⟩,0,false⟩,fun _=>z_w,z_w,fun h=>by cases h⟩
theorem wa_o{q:Prop}{x:Wa}(h:okW x.m/\wd x.o/\q):wd x.o:=h.2.1
theorem wa_m{q:Prop}{x:Wa}(h:okW x.m/\wd x.o/\q):okW x.m:=h.1
section
variable {b:Nat} {c:Cf} {p:Ep} {s:Es} {i:Nat}
theorem okE.ka(h:okE b c p s)(e:Nat):upto s.x.n s.x.kl e<=s.kc e/\upto s.x.n s.x.kl e<=upto s.x.n s.x.kl e:=⟨by unfold upto;split;exact h.kc e ‹_›;exact zh _,Z _⟩
theorem okE.la(h:okE b c p s)(e:Nat):upto p.fn s.f.ll e<=s.f.lc e/\upto p.fn s.f.ll e<=upto p.fn s.f.ll e:=⟨by unfold upto;split;exact h.lc e ‹_›;exact zh _,Z _⟩
theorem okE.ec(h:okE b c p s):s.ne<=s.ne/\s.ne<=s.nc:=⟨Z _,h.nc⟩
theorem mkA(hs:okE b c p s){m:Mm}{st:Nat->Bool}{ne nc:Nat}{ln qt qb qr qc a b' d ii j n t u v w x:Nat->Int}{dn:Bool}{cd vl:Int}(hm:okW m)(hne:ne<=s.ne+3)(hnc:ne<=nc)(hln:∀e,e≠i->ln e=s.f.ln e)(hii:∀e,e≠i->ii e=s.f.i e)
  (hu:∀e,wd (u e)) (hv:∀e,wd (v e)) (hw:∀e,wd (w e)) (hx:∀e,wd (x e)) (hq:∀e,qc e<=9223372036854775807):
  ΦA b c p s i ⟨⟨m,s.now,s.dr,⟨s.x.n,s.x.p,s.x.pa,s.x.pc,s.x.lf,s.x.wt,s.x.kl,s.x.kd,st⟩,s.kc,ne,nc,⟨s.f.kd,ln,qt,qb,qr,qc,a,b',d,ii,j,n,t,u,v,w,x,s.f.ll,s.f.lc,s.f.ld⟩⟩,dn,cd,vl⟩:=
 ⟨⟨hm,hs.n,hs.kc,hnc,hs.lc,hu,hv,hw,hx,hq⟩,⟨hne,fun e=>Nat.le_succ _,fun e=>Nat.le_succ _⟩,⟨rfl,rfl,rfl,rfl,rfl,rfl,rfl,rfl,rfl,hln,hii,rfl⟩⟩
theorem stA.refl:stA i s s:=⟨rfl,rfl,rfl,rfl,rfl,rfl,rfl,rfl,rfl,fun _ _=>rfl,fun _ _=>rfl,rfl⟩
theorem mkB{s0:Es}(hs:okE b c p s0)(ht:stA i s s0){m:Mm}{st:Nat->Bool}{ln qt qb qr qc a b' d ii j n t u v w x:Nat->Int}(hm:okW m)(hln:∀e,e≠i->ln e=s0.f.ln e)(hii:∀e,e≠i->ii e=s0.f.i e)
  (hu:∀e,wd (u e)) (hv:∀e,wd (v e)) (hw:∀e,wd (w e)) (hx:∀e,wd (x e)) (hq:∀e,qc e<=9223372036854775807):
  okE b c p ⟨m,s0.now,s0.dr,⟨s0.x.n,s0.x.p,s0.x.pa,s0.x.pc,s0.x.lf,s0.x.wt,s0.x.kl,s0.x.kd,st⟩,s0.kc,s0.ne,s0.nc,⟨s0.f.kd,ln,qt,qb,qr,qc,a,b',d,ii,j,n,t,u,v,w,x,s0.f.ll,s0.f.lc,s0.f.ld⟩⟩/\
  stA i s ⟨m,s0.now,s0.dr,⟨s0.x.n,s0.x.p,s0.x.pa,s0.x.pc,s0.x.lf,s0.x.wt,s0.x.kl,s0.x.kd,st⟩,s0.kc,s0.ne,s0.nc,⟨s0.f.kd,ln,qt,qb,qr,qc,a,b',d,ii,j,n,t,u,v,w,x,s0.f.ll,s0.f.lc,s0.f.ld⟩⟩:=
 ⟨⟨hm,hs.n,hs.kl,hs.kc,hs.ne,hs.nc,hs.ll,hs.lc,hu,hv,hw,hx,hq⟩,⟨ht.xn,ht.xp,ht.xc,ht.xk,ht.kc,ht.kd,ht.ll,ht.lc,ht.ld,fun e he=>(hln e he).trans (ht.ln e he),fun e he=>(hii e he).trans (ht.fi e he),ht.now⟩⟩
theorem okE.le{b':Nat}(h:okE b c p s)(hb:b<=b'):okE b' c p s:=⟨h.m,h.n,fun e=>zo (h.kl e) hb,h.kc,zo h.ne hb,h.nc,fun e=>zo (h.ll e) hb,h.lc,h.u,h.v,h.w,h.x,h.q⟩
end
theorem lt01{n i:Nat}(h:i<n):0<1/\i<n:=⟨Nat.zero_lt_one,h⟩
theorem up_2{i:Nat}{f:Nat->Int}{v v':Int}:∀e,e≠i->(if 0=0/\e=i then v else if 0=0/\e=i then v' else f e)=f e:=fun e he=>by rw[if_neg fun h=>he h.2,if_neg fun h=>he h.2]
theorem claim_r{b:Nat}{c:Cf}{p:Ep}{s:Es}{a t:Int}{x:Wa}(hs:okE b c p s)(h:okW x.m/\wd x.o/\(x.b=true->O 0<=a))(hb:(!x.b)=false)(ha:a=-O 1\/O 0<=t/\t<c.T):O 0<=t/\t<(s.x.n:Int):=by
 have h1:=h.2.2 (by simpa using hb)
 have h2:=hs.n
 simp only[zz]at *
 omega
theorem zbk{n:Nat}{t:Int}(h:O 0<=t/\t<(n:Int)):0<1/\0+t.toNat<n:=by
 simp only[zz]at *
 omega
theorem kd_no{x:Int}{n:Nat}{q:Prop}(h:(x == O n)=false)(e:x=(n:Int)):q:=by
 rw[e]at h
 simp at h
theorem cli_r{x:Int}{n:Nat}(h0:0<=x)(h:decide (x >= (n:Int))=false):O 0<=x/\x<(n:Int):=by
 have h:=of_decide_eq_false h
 exact⟨h0,by omega⟩
theorem tsk{v T:Int}(h0:decide (v >= O 0)=true)(h:decide (v<T)=true):0<=v/\v<T:=⟨of_decide_eq_true h0,of_decide_eq_true h⟩
theorem qokh{p:Prop}(h:p:=by first|assumption|exact And.left ‹_›):p:=h
theorem qwdc{p:Prop}(h:p:=by first|exact z_w|exact lit_w (by decide)|exact wrap_ok _|exact wa_o ‹_›|exact okE.u qokh _|exact okE.v qokh _|exact okE.w qokh _|exact okE.x qokh _|assumption|exact bits_ok _|exact pkW_ok' _ _ _|exact up_w (okE.u qokh) (wa_o ‹_›) _|exact up_w (okE.v qokh) (wa_o ‹_›) _|exact up_w (okE.w qokh) (wa_o ‹_›) _|exact up_w (okE.x qokh) (wa_o ‹_›) _|decide):p:=h
theorem qwmc{p:Prop}(h:p:=by first|exact wa_m ‹_›|exact okE.m qokh):p:=h
theorem qupc{p:Prop}(h:p:=by first|exact okE.u qokh|exact okE.v qokh|exact okE.w qokh|exact okE.x qokh|exact up_w (okE.u qokh) qwdc|exact up_w (okE.v qokh) qwdc|exact up_w (okE.w qokh) qwdc|exact up_w (okE.x qokh) qwdc|exact up_w (up_w (okE.w qokh) qwdc) qwdc):p:=h
theorem qlnc{p:Prop}(h:p:=by first|exact fun _ _=>rfl|exact up_n|exact up_2):p:=h
theorem qmka{p:Prop}(h:p:=by exact mkA ‹_› qwmc (by omega) (by first|exact okE.nc qokh|assumption|omega) qlnc qlnc qupc qupc qupc qupc (okE.q qokh)):p:=h
theorem qlfc{p:Prop} (h:p:=by first
  | assumption
  | exact True.intro
  | exact lt01 ‹_›
  | exact zh _
  | exact⟨zh _,zh _⟩
  | exact .inl rfl
  | exact okE.ka qokh _
  | exact okE.la qokh _
  | exact okE.ec qokh
  | exact ex_wa
  | exact⟨by exact qwmc,by exact qwdc,by exact qwdc⟩
  | exact qmka
  | exact⟨by exact qmka,rfl⟩
  | exact⟨by exact qmka,fun h=>kd_no ‹_› h⟩
  | exact⟨by exact qmka,fun _=>⟨rfl,.inl rfl⟩⟩
  | exact⟨by exact qmka,fun _=>⟨rfl,.inr (tsk ‹_› ‹_›)⟩⟩
  | exact okE.q qokh _
  | exact ex_w
  | exact⟨_,Z _⟩
  | exact⟨0,by decide⟩
  | exact⟨(0,0),trivial⟩
  | exact okE.u qokh _
  | (have:=okE.ne qokh;omega)
  | exact claim_r ‹_› ‹_› ‹_› ‹_›
  | exact zbk (claim_r ‹_› ‹_› ‹_› ‹_›)
  | exact(zbk (claim_r ‹_› ‹_› ‹_› ‹_›)).2
  | exact cli_r ‹_› ‹_›
  | exact zbk (cli_r ‹_› ‹_›)
  | (simp only[zz];omega)
  | exact⟨0,trivial⟩
  | exact⟨-1,.inl rfl⟩
  | (subst_vars;rfl)
  | decide
  | omega):p:=h
section
variable {b:Nat} {c:Cf} {p:Ep} {s:Es} {i:Nat}
theorem vhC(hi:i<p.fn)(hb:b<=900000)(hY:okY c)(hs:okE b c p s):
  zad (vLf conLf gPush [] .nil c p s i (ΦA b c p s i))/\
  zad (vLf conLf gPop [] .nil c p s i (ΦA b c p s i))/\
  zad (vLf conLf gSteal [] .nil c p s i (ΦA b c p s i))/\
  zad (vLf conLf gClear [] .nil c p s i (ΦA b c p s i))/\
  zad (vLf conLf gIns [] .nil c p s i (ΦA b c p s i))/\
  zad (vLf conLf gRem [] .nil c p s i (ΦA b c p s i))/\
  zad (vLf conLf gClaim [] .nil c p s i (ΦA b c p s i))/\
  zad (vLf conLf gTab [] .nil c p s i (ΦT b c p s i))/\
  zad (vLf conLf gBoost [] .nil c p s i (ΦA b c p s i))/\
  zad (vLf conLf gSweep [] .nil c p s i (ΦA b c p s i))/\
  zad (vLf conLf gSleep [] .nil c p s i (ΦA b c p s i))/\
  zad (vLf conLf gWake [] .nil c p s i (ΦA b c p s i))/\
  zad (vLf conLf gDrain [] .nil c p s i (ΦA b c p s i))/\
  (0<=s.f.i i->zad (vLf conLf gCli [] .nil c p s i (ΦC b c p s i))):=by
 have hD:=okD hY
 refine⟨zad.pr (vPush_eq ..) ?_,zad.pr (vPop_eq ..) ?_,zad.pr (vSteal_eq ..) ?_,zad.pr (vClear_eq ..) ?_,zad.pr (vIns_eq ..) ?_,zad.pr (vRem_eq ..) ?_,zad.pr (vClaim_eq ..) ?_,zad.pr (vTab_eq ..) ?_,zad.pr (vBoost_eq ..) ?_,zad.pr (vSweep_eq ..) ?_,zad.pr (vSleep_eq ..) ?_,zad.pr (vWake_eq ..) ?_,zad.pr (vDrain_eq ..) ?_,fun hI=>zad.pr (vCli_eq ..) ?_⟩
 all_goals (with_reducible repeat' first|exact zk|refine zn ?_|refine zm ?_|refine zl ?_ ?_|refine zi ?_|refine nN_h rfl ?_|refine z9 ?_ ?_|intro _)
 all_goals try dsimp only
 all_goals first
  | exact qlfc
  | trace_state
theorem vhPush(hi:i<p.fn)(hb:b<=900000)(hY:okY c)(hs:okE b c p s):zad (vLf conLf gPush [] .nil c p s i (ΦA b c p s i)):=(vhC hi hb hY hs).1
theorem vhPop(hi:i<p.fn)(hb:b<=900000)(hY:okY c)(hs:okE b c p s):zad (vLf conLf gPop [] .nil c p s i (ΦA b c p s i)):=(vhC hi hb hY hs).2.1
theorem vhSteal(hi:i<p.fn)(hb:b<=900000)(hY:okY c)(hs:okE b c p s):zad (vLf conLf gSteal [] .nil c p s i (ΦA b c p s i)):=(vhC hi hb hY hs).2.2.1
theorem vhClear(hi:i<p.fn)(hb:b<=900000)(hY:okY c)(hs:okE b c p s):zad (vLf conLf gClear [] .nil c p s i (ΦA b c p s i)):=(vhC hi hb hY hs).2.2.2.1
theorem vhIns(hi:i<p.fn)(hb:b<=900000)(hY:okY c)(hs:okE b c p s):zad (vLf conLf gIns [] .nil c p s i (ΦA b c p s i)):=(vhC hi hb hY hs).2.2.2.2.1
theorem vhRem(hi:i<p.fn)(hb:b<=900000)(hY:okY c)(hs:okE b c p s):zad (vLf conLf gRem [] .nil c p s i (ΦA b c p s i)):=(vhC hi hb hY hs).2.2.2.2.2.1
theorem vhTab(hi:i<p.fn)(hb:b<=900000)(hY:okY c)(hs:okE b c p s):zad (vLf conLf gTab [] .nil c p s i (ΦT b c p s i)):=(vhC hi hb hY hs).2.2.2.2.2.2.2.1
theorem vhBoost(hi:i<p.fn)(hb:b<=900000)(hY:okY c)(hs:okE b c p s):zad (vLf conLf gBoost [] .nil c p s i (ΦA b c p s i)):=(vhC hi hb hY hs).2.2.2.2.2.2.2.2.1
theorem vhSweep(hi:i<p.fn)(hb:b<=900000)(hY:okY c)(hs:okE b c p s):zad (vLf conLf gSweep [] .nil c p s i (ΦA b c p s i)):=(vhC hi hb hY hs).2.2.2.2.2.2.2.2.2.1
theorem vhSleep(hi:i<p.fn)(hb:b<=900000)(hY:okY c)(hs:okE b c p s):zad (vLf conLf gSleep [] .nil c p s i (ΦA b c p s i)):=(vhC hi hb hY hs).2.2.2.2.2.2.2.2.2.2.1
theorem vhWake(hi:i<p.fn)(hb:b<=900000)(hY:okY c)(hs:okE b c p s):zad (vLf conLf gWake [] .nil c p s i (ΦA b c p s i)):=(vhC hi hb hY hs).2.2.2.2.2.2.2.2.2.2.2.1
theorem vhDrain(hi:i<p.fn)(hb:b<=900000)(hY:okY c)(hs:okE b c p s):zad (vLf conLf gDrain [] .nil c p s i (ΦA b c p s i)):=(vhC hi hb hY hs).2.2.2.2.2.2.2.2.2.2.2.2.1
theorem vhCli(hi:i<p.fn)(hb:b<=900000)(hY:okY c)(hs:okE b c p s)(hI:0<=s.f.i i):zad (vLf conLf gCli [] .nil c p s i (ΦC b c p s i)):=(vhC hi hb hY hs).2.2.2.2.2.2.2.2.2.2.2.2.2 hI
end
noncomputable section
def Fk.on(f y:Fk):Fk:=⟨f.kd,y.ln,y.qt,y.qb,y.qr,y.qc,y.a,y.b,y.d,y.i,y.j,y.n,y.t,y.u,y.v,y.w,y.x,f.ll,f.lc,f.ld⟩
def Es.mf(s:Es)(m:Mm)(y:Fk):Es:=⟨m,s.now,s.dr,s.x,s.kc,s.ne,s.nc,s.f.on y⟩
def laPf(c:Cf)(p:Ep)(s0:Es)(I:Mm×Fk->Prop)(s:St):Option (LA (Mm×Fk)):=fN (renK 0 s) fun ke=>(find (tmK 4 s) s.H.h).map fun b4=>⟨[(fun _=>0,true),(fun _=>4,true),(fun _=>8,true),(tmK 4,true)],fun x=>[((s0.mf x.1 x.2).rv c p).b 1 2 4 5 ke,wRow p.cap p.n x.1,(s0.f.on x.2).row 9 p.fn p.fc,b4],[],fun _=>[],fun s=>(rdEs 0 8 s.H.h).map fun q=>(q.1.m,q.1.f),I,fun _=>0⟩
def laPv(c:Cf)(p:Ep)(s0:Es)(I:(Mm×Fk)×Int->Prop)(s:St):Option (LA ((Mm×Fk)×Int)):=fN (renK 0 s) fun ke=>(find (tmK 4 s) s.H.h).map fun b4=>⟨[(fun _=>0,true),(fun _=>4,true),(fun _=>8,true),(tmK 4,true)],fun x=>[((s0.mf x.1.1 x.1.2).rv c p).b 1 2 4 5 ke,wRow p.cap p.n x.1.1,(s0.f.on x.1.2).row 9 p.fn p.fc,b4],[7],fun x=>[iv x.2],fun s=>match rdEs 0 8 s.H.h,tmI 7 s with|some q,some v=>some ((q.1.m,q.1.f),v)|_,_=>none,I,fun _=>0⟩
def avPrb(c:Cf)(p:Ep)(s0:Es)(I1:Int×Int->Prop)(I2:Bool×Int->Prop)(I3:Mm×Fk->Prop)(I4:(Mm×Fk)×Int->Prop):AV:=.cut 1003 (Mm×Fk) (laPf c p s0 I3) .nil (.loop (Int×Int) [] (fun _=>some ⟨[],fun _=>[],[5,6],fun x=>[iv x.1,iv x.2],fun s=>match tmI 5 s,tmI 6 s with|some a,some b=>some (a,b)|_,_=>none,I1,fun x=>(c.W-x.2).toNat⟩) .nil
 (.cut 12015 ((Mm×Fk)×Int) (laPv c p s0 I4) .nil (.cut 18 (Mm×Fk) (laPf c p s0 I3) .nil (.loop (Bool×Int) [] (fun _=>some ⟨[],fun _=>[],[9,10],fun x=>[.c (.bv x.1),iv x.2],fun s=>match tmB 9 s,tmI 10 s with|some a,some b=>some (a,b)|_,_=>none,I2,fun x=>(c.W-x.2).toNat⟩) .nil .nil))))
def vPrb(c:Cf)(p:Ep)(s:Es)(i:Nat)(Φ:Eo->Prop)(I1:Int×Int->Prop)(I2:Bool×Int->Prop)(I3:Mm×Fk->Prop)(I4:(Mm×Fk)×Int->Prop):V:=vLf conLf gProbe [] (avPrb c p s I1 I2 I3 I4) c p s i Φ
end
abbrev g53(a0:Nat)(a1:Ep)(a2:Fk)(k:V):V:=g0 a0 a1 (U (O 0<=O 0/\O 0<=i64.wrap ((↑(a2.ll a0):Int)-O 1)/\i64.wrap ((↑(a2.ll a0):Int)-O 1)<=(↑(a2.lc a0):Int)) k)
abbrev g4(a0:Rk)(l:LP):LP:=qF a0.n a0.wt::qF a0.n (fun (e:Nat)=>e)::l
abbrev g31(a0:Rk)(l:LP):LP:=qL a0.n::qF a0.n a0.p::qF a0.n a0.pa::qF a0.n a0.pc::qF a0.n a0.lf::l
abbrev g33(a0:Rk)(l:LP):LP:=g31 a0 (g4 a0 (qF a0.n a0.kl::l))
abbrev g45(a0:Rk)(a1:Es)(k:V):V:=nN (g33 a0 [qF a0.n a1.kc,qF a0.n a0.st]) (U (∀(i:Nat),a1.kc i=a1.kc i\/a1.kc i=0) (U (∀(i:Nat),upto a0.n a0.kl i<=a1.kc i/\upto a0.n a0.kl i<=upto a0.n a0.kl i) (nN [(1,.pf (∀(i e:Nat),e<upto a0.n a0.kl i->a0.kd i e=a0.kd i e) (by intros;rfl))] k)))
abbrev g54(a0:Cf)(a1:Ep)(a2:Mm)(a3:Es)(a4:Rk)(l:LP):LP:=g43 a0 a1 a2 a3 a4 (qE a1.rc::l)
abbrev g55(a0:Cf)(a1:Ep)(a2:Mm)(a3:Es)(a4:Rk)(k:V):V:=nN (g54 a0 a1 a2 a3 a4 []) (g45 a4 a3 k)
abbrev g57(a0:Ep)(l:LP):LP:=qE a0.fc::qL a0.fn::l
abbrev g61(a0:Cf)(a1:Ep)(a2:Mm)(a3:Es)(a4:Rk)(k:V):V:=g55 a0 a1 a2 a3 a4 (nN (g57 a1 []) k)
abbrev g90(a0:Ep)(a1:Fk)(a2:Nat)(l:LP):LP:=qF a0.fn a1.kd::qF a0.fn (aN a2 (O 1) a1.ln)::l
abbrev g70(l:LP):LP:=qE false::(2,.eqI 0 0)::l
abbrev g103(a0:Eo->Prop)(a1:Es)(a2:Mm)(a3:Fk)(a4:Nat)(a5:Wa)(k:V):V:=U (a0 (Eo.mk { a1 with m:=a2,f:={ a3 with ln:=aN a4 (O 1) a3.ln,n:=aN a4 (i64.wrap (u64.wrap (a5.o-O 1))) a3.n,ll:=aN a4 ((i64.wrap ((↑(a3.ll a4):Int)-O 1)).toNat) a3.ll,lc:=aN a4 (a3.lc a4) a3.lc }} false (O 0) (O 0))) (nN (g70 []) k)
abbrev g104(a0:Eo->Prop)(a1:Es)(a2:Mm)(a3:Fk)(a4:Nat)(a5:Wa)(k:V):V:=U (a0 (Eo.mk { a1 with m:=a2,f:={ a3 with ln:=aN a4 (O 1) a3.ln,n:=aN a4 (i64.wrap (u64.wrap (a5.o-O 1))) a3.n,ll:=aN a4 ((i64.wrap ((↑(a3.ll a4):Int)-O 1)).toNat) a3.ll,lc:=aN a4 (a3.lc a4) a3.lc }} true (O 0) (O 0))) (nN [qE true] k)
abbrev g38(a0:Ep)(a1:Fk)(l:LP):LP:=qF a0.fn a1.qt::qF a0.fn a1.qb::qF a0.fn a1.qr::qF a0.fn a1.qc::l
abbrev g32(a0:Ep)(a1:Fk)(l:LP):LP:=qF a0.fn a1.a::qF a0.fn a1.b::l
abbrev g40(a0:Ep)(a1:Fk)(l:LP):LP:=g38 a0 a1 (g32 a0 a1 (qF a0.fn a1.d::l))
abbrev g56(a0:Ep)(a1:Fk)(l:LP):LP:=g40 a0 a1 (qF a0.fn a1.i::l)
abbrev g63(a0:Ep)(a1:Fk)(l:LP):LP:=g56 a0 a1 (qF a0.fn a1.j::l)
abbrev g126(a0:Ep)(a1:Fk)(a2:Nat)(a3:Wa)(l:LP):LP:=g63 a0 a1 (qF a0.fn (aN a2 (i64.wrap (u64.wrap (a3.o-O 1))) a1.n)::l)
end Go.Proofs.YtabiechfpefjhaaGreat.En
