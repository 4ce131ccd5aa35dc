/- A part of the proof. -/
import Derived.Test.YtjgldffneablmaaGreatML
import Derived.Test.YtjgldffneablmaaGreatMW
import Derived.Test.YtjgldffneablmaaGreatMNw
import Derived.Test.YtjgldffneablmaaGreatMNwLen
import Derived.Test.YtjgldffneablmaaGreatMExec
set_option linter.unusedVariables false
set_option linter.unusedSimpArgs false
set_option maxRecDepth 100000
open Go.IntKind (i64 u64)
open Int renaming ofNat -> O
open Nat renaming zero_add -> ze
open Go.Proofs.YtjgldffneablmaaGreat.Sx.V renaming need -> U
namespace Go.Proofs.YtjgldffneablmaaGreat.Vc
open Go Go.RowKit Sx Cn Dc Ck
noncomputable section
abbrev uwn(n:Int):SC:=.iv .u64 n
abbrev i6n(n:Int):SC:=.iv .i64 n
def mOn(n cap:Nat)(lk lc lo ln ct:SC):Blk:=.own 118 6 ([.slc 1 (.k 0) (.k 0) 1 (.s n) (.s cap),lk,lc,lo,ln,ct].map some)
def h0S(g:Nat->Int)(n cap:Nat)(lk lc lo ln ct:Int):HL:=[(0,mOn n cap (i6n lk) (i6n lc) (uwn lo) (uwn ln) (i6n ct)),(1,.row 46 cap n [.ci .u64 fun _ e=>g e])]
def h1S(g:Nat->Int)(n cap:Nat)(kd a x:Int)(ct:Int):HL:=[(0,mOn n cap (i6n kd) (i6n a) (uwn (g a.toNat)) (uwn x) (i6n (i64.wrap (ct+1)))),(1,.row 46 cap n [.ci .u64 fun _ e=>if e=a.toNat then x else g e])]
def finM(ret:SV)(g:Nat->Int)(n cap:Nat)(kd a x ct:Int):SV->Hp->V:=finV (X:=Unit) 2 2 (fun _ _=>some ()) (fun _ _=>[]) (fun _=>True) (fun _=>ret) (fun _=>h1S g n cap kd a x ct)
def ptMn:SV:=.c (.ptr 0 (.k 0) (.k 0) 0 6)
section
variable (g:Nat->Int) (n cap:Nat) (a v y lk lc lo ln ct:Int)
def verLd:V:=verF P con0 3 6 180 [] .nil [ptMn,.c (i6n a)] ⟨h0S g n cap lk lc lo ln ct,2,fun _=>True⟩ (finM (.c (uwn (g a.toNat))) g n cap 1 a (g a.toNat) ct)
def verSt:V:=verF P con0 3 6 20 [] .nil [ptMn,.c (i6n a),.c (uwn v)] ⟨h0S g n cap lk lc lo ln ct,2,fun _=>True⟩ (finM (.t []) g n cap 2 a v ct)
def verOr:V:=verF P con0 3 6 203 [] .nil [ptMn,.c (i6n a),.c (uwn v)] ⟨h0S g n cap lk lc lo ln ct,2,fun _=>True⟩ (finM (.c (uwn (g a.toNat))) g n cap 4 a (bits .or .u64 (g a.toNat) v) ct)
def verAnd:V:=verF P con0 3 6 201 [] .nil [ptMn,.c (i6n a),.c (uwn v)] ⟨h0S g n cap lk lc lo ln ct,2,fun _=>True⟩ (finM (.c (uwn (g a.toNat))) g n cap 5 a (bits .and .u64 (g a.toNat) v) ct)
def verCsT:V:=verF P con0 3 6 193 [] .nil [ptMn,.c (i6n a),.c (uwn v),.c (uwn y)] ⟨h0S g n cap lk lc lo ln ct,2,fun _=>True⟩ (finM (.c (.kb true)) g n cap 3 a y ct)
def verCsF:V:=verF P con0 3 6 193 [] .nil [ptMn,.c (i6n a),.c (uwn v),.c (uwn y)] ⟨h0S g n cap lk lc lo ln ct,2,fun _=>True⟩ (finM (.c (.kb false)) g n cap 3 a (g a.toNat) ct)
end
end
abbrev zmem8(a0:Int)(a1 a2:Nat)(k:V):V:=U (i64.wrap (a0+O 1)=i64.wrap (a0+O 1)) (U (a1=a1) (U (a2<=a2) k))
abbrev zmem3(a0:Int)(a1:Nat->Int)(k:V):V:=U (a0=a0) (U (a1 (0+a0.toNat)=a1 a0.toNat) k)
abbrev zmems0(a:Int)(g:Nat->Int)(ct:Int)(cap n:Nat):V:=zmem3 a g (U ((if 0=0/\0+a.toNat=0+a.toNat then g (0+a.toNat) else g (0+a.toNat))=g a.toNat) (zmem8 ct cap n (U (∀(e:Nat),e<n->(if 0=0/\e=0+a.toNat then g (0+a.toNat) else g e)=if e=a.toNat then g a.toNat else g e) V.ok)))
abbrev zhr(a0:Int)(a1:Nat)(k:V):V:=U (a0=i64.wrap (a0+O 1)) (U (a1=a1) k)
abbrev zmem6(a0:Nat->Int)(a1:Int)(k:V):V:=U True (U (O 0=a0 a1.toNat) k)
abbrev zmem2(a0:Int)(a1:Nat)(k:V):V:=U (O 0<=a0/\a0<(↑a1:Int)) (U (0+a0.toNat<a1) (U (0+a0.toNat<a1) k))
abbrev zmem9(a0:Int)(a1:Nat)(k:V):V:=U (O 0<=a0/\a0<(↑a1:Int)) (U (0<1/\0+a0.toNat<a1) (U (0+a0.toNat<a1) (zmem2 a0 a1 (U True k))))
abbrev zds(a0 a1:Nat)(k:V):V:=U (a0=a0) (U (a1=a1) k)
abbrev zhp(a0 a1 a2:Int)(a3:Nat->Int)(k:V):V:=U (a0=a1) (U (a2=a3 a1.toNat) k)
abbrev zmem5(a0:Nat)(a1:Nat->Int)(a2:Int)(k:V):V:=U (a0<=a0) (U (∀(e:Nat),e<a0->a1 e=if e=a2.toNat then a1 a2.toNat else a1 e) k)
theorem verLd_eq(g:Nat->Int)(n cap:Nat)(a lk lc lo ln ct:Int):verLd g n cap a lk lc lo ln ct=
 V.br (decide (a<O 0)) (zmem6 g a (zds n cap (U (lk=O 1) (zhp lc a lo g (U (ln=g a.toNat) (zhr ct cap (zmem5 n g a V.ok))))))) (V.br (decide (a >= (↑n:Int))) (zmem6 g a (zds n cap (U (lk=O 1) (zhp lc a lo g (U (ln=g a.toNat) (zhr ct cap (zmem5 n g a V.ok))))))) (zmem2 a n (nN [(3,.lt2 0 1 0 1)] (zmem9 a n (U (g (0+a.toNat)=g a.toNat) (zds n cap (nN [(1,.eqI 1 1)] (zmems0 a g ct cap n)))))))):=by kernel_rfl
abbrev zmem7(a0:Nat)(a1:Nat->Int)(a2 a3:Int)(k:V):V:=U (a0<=a0) (U (∀(e:Nat),e<a0->a1 e=if e=a2.toNat then a3 else a1 e) k)
abbrev zmem10(a0:Int)(a1:Nat)(k:V):V:=zmem2 a0 a1 (nN [(4,.lt2 0 1 0 1)] k)
theorem verSt_eq(g:Nat->Int)(n cap:Nat)(a v lk lc lo ln ct:Int):verSt g n cap a v lk lc lo ln ct=
 V.br (decide (a<O 0)) (U True (zds n cap (U (lk=O 2) (zhp lc a lo g (U (ln=v) (zhr ct cap (zmem7 n g a v V.ok))))))) (V.br (decide (a >= (↑n:Int))) (U True (zds n cap (U (lk=O 2) (zhp lc a lo g (U (ln=v) (zhr ct cap (zmem7 n g a v V.ok))))))) (zmem10 a n (zmem9 a n (zds n cap (nN [(1,.eqI 2 2)] (zmem3 a g (U ((if 0=0/\0+a.toNat=0+a.toNat then v else g (0+a.toNat))=v) (zmem8 ct cap n (U (∀(e:Nat),e<n->(if 0=0/\e=0+a.toNat then v else g e)=if e=a.toNat then v else g e) V.ok))))))))):=by kernel_rfl
theorem verOr_eq(g:Nat->Int)(n cap:Nat)(a v lk lc lo ln ct:Int):verOr g n cap a v lk lc lo ln ct=
 V.br (decide (a<O 0)) (zmem6 g a (zds n cap (U (lk=O 4) (zhp lc a lo g (U (ln=bits BinOp.or IntKind.u64 (g a.toNat) v) (zhr ct cap (U (n<=n) (U (∀(e:Nat),e<n->g e=if e=a.toNat then bits BinOp.or IntKind.u64 (g a.toNat) v else g e) V.ok)))))))) (V.br (decide (a >= (↑n:Int))) (zmem6 g a (zds n cap (U (lk=O 4) (zhp lc a lo g (U (ln=bits BinOp.or IntKind.u64 (g a.toNat) v) (zhr ct cap (U (n<=n) (U (∀(e:Nat),e<n->g e=if e=a.toNat then bits BinOp.or IntKind.u64 (g a.toNat) v else g e) V.ok)))))))) (zmem10 a n (zmem9 a n (U (g (0+a.toNat)=g a.toNat) (zds n cap (nN [(1,.eqI 4 4)] (zmem3 a g (U ((if 0=0/\0+a.toNat=0+a.toNat then bits BinOp.or IntKind.u64 (g (0+a.toNat)) v else g (0+a.toNat))=bits BinOp.or IntKind.u64 (g a.toNat) v) (zmem8 ct cap n (U (∀(e:Nat),e<n->(if 0=0/\e=0+a.toNat then bits BinOp.or IntKind.u64 (g (0+a.toNat)) v else g e)=if e=a.toNat then bits BinOp.or IntKind.u64 (g a.toNat) v else g e) V.ok)))))))))):=by kernel_rfl
theorem verAnd_eq(g:Nat->Int)(n cap:Nat)(a v lk lc lo ln ct:Int):verAnd g n cap a v lk lc lo ln ct=
 V.br (decide (a<O 0)) (zmem6 g a (zds n cap (U (lk=O 5) (zhp lc a lo g (U (ln=bits BinOp.and IntKind.u64 (g a.toNat) v) (zhr ct cap (U (n<=n) (U (∀(e:Nat),e<n->g e=if e=a.toNat then bits BinOp.and IntKind.u64 (g a.toNat) v else g e) V.ok)))))))) (V.br (decide (a >= (↑n:Int))) (zmem6 g a (zds n cap (U (lk=O 5) (zhp lc a lo g (U (ln=bits BinOp.and IntKind.u64 (g a.toNat) v) (zhr ct cap (U (n<=n) (U (∀(e:Nat),e<n->g e=if e=a.toNat then bits BinOp.and IntKind.u64 (g a.toNat) v else g e) V.ok)))))))) (zmem10 a n (zmem9 a n (U (g (0+a.toNat)=g a.toNat) (zds n cap (nN [(1,.eqI 5 5)] (zmem3 a g (U ((if 0=0/\0+a.toNat=0+a.toNat then bits BinOp.and IntKind.u64 (g (0+a.toNat)) v else g (0+a.toNat))=bits BinOp.and IntKind.u64 (g a.toNat) v) (zmem8 ct cap n (U (∀(e:Nat),e<n->(if 0=0/\e=0+a.toNat then bits BinOp.and IntKind.u64 (g (0+a.toNat)) v else g e)=if e=a.toNat then bits BinOp.and IntKind.u64 (g a.toNat) v else g e) V.ok)))))))))):=by kernel_rfl
theorem verCsT_eq(g:Nat->Int)(n cap:Nat)(a v y lk lc lo ln ct:Int):verCsT g n cap a v y lk lc lo ln ct=
 V.br (decide (a<O 0)) (U True (U (false=true) (zds n cap (U (lk=O 3) (zhp lc a lo g (U (ln=y) (zhr ct cap (zmem7 n g a y V.ok)))))))) (V.br (decide (a >= (↑n:Int))) (U True (U (false=true) (zds n cap (U (lk=O 3) (zhp lc a lo g (U (ln=y) (zhr ct cap (zmem7 n g a y V.ok)))))))) (zmem10 a n (V.br (g (0+a.toNat) == v) (nN [(1,.lt2 0 1 0 1)] (zmem9 a n (U ((g (0+a.toNat) == v)=true) (zds n cap (nN [(1,.eqI 3 3)] (zmem3 a g (U ((if 0=0/\0+a.toNat=0+a.toNat then y else g (0+a.toNat))=y) (zmem8 ct cap n (U (∀(e:Nat),e<n->(if 0=0/\e=0+a.toNat then y else g e)=if e=a.toNat then y else g e) V.ok))))))))) (zmem9 a n (U ((g (0+a.toNat) == v)=true) (zds n cap (nN [(1,.eqI 3 3)] (zmem3 a g (U ((if 0=0/\0+a.toNat=0+a.toNat then g (0+a.toNat) else g (0+a.toNat))=y) (zmem8 ct cap n (U (∀(e:Nat),e<n->(if 0=0/\e=0+a.toNat then g (0+a.toNat) else g e)=if e=a.toNat then y else g e) V.ok))))))))))):=by kernel_rfl
theorem verCsF_eq(g:Nat->Int)(n cap:Nat)(a v y lk lc lo ln ct:Int):verCsF g n cap a v y lk lc lo ln ct=
 V.br (decide (a<O 0)) (U True (zds n cap (U (lk=O 3) (zhp lc a lo g (U (ln=g a.toNat) (zhr ct cap (zmem5 n g a V.ok))))))) (V.br (decide (a >= (↑n:Int))) (U True (zds n cap (U (lk=O 3) (zhp lc a lo g (U (ln=g a.toNat) (zhr ct cap (zmem5 n g a V.ok))))))) (zmem10 a n (V.br (g (0+a.toNat) == v) (nN [(1,.lt2 0 1 0 1)] (zmem9 a n (U ((g (0+a.toNat) == v)=false) (zds n cap (nN [(1,.eqI 3 3)] (zmem3 a g (U ((if 0=0/\0+a.toNat=0+a.toNat then y else g (0+a.toNat))=g a.toNat) (zmem8 ct cap n (U (∀(e:Nat),e<n->(if 0=0/\e=0+a.toNat then y else g e)=if e=a.toNat then g a.toNat else g e) V.ok))))))))) (zmem9 a n (U ((g (0+a.toNat) == v)=false) (zds n cap (nN [(1,.eqI 3 3)] (zmems0 a g ct cap n)))))))):=by kernel_rfl
theorem vhLd{g:Nat->Int}{n cap:Nat}{a lk lc lo ln ct:Int}(h0:0<=a)(h1:a<n):zac (verLd g n cap a lk lc lo ln ct):=by
 constructor
 rw[verLd_eq]
 refine V.brFo (by simp;omega) (V.brFo (by simp;omega) ?_)
 simp only[ze]
 (repeat' first|with_reducible exact V.okI|with_reducible refine V.brT ?_|with_reducible refine V.brF ?_|with_reducible refine V.brI ?_ ?_|with_reducible refine V.anyI ?_|with_reducible refine nN_h ?_ ?_|with_reducible refine V.needI ?_ ?_|intro _)
 all_goals first|rfl|omega|exact⟨h0,h1⟩|exact True.intro|(simp;done)|(refine⟨by decide,?_⟩;omega)
theorem vhSt{g:Nat->Int}{n cap:Nat}{a v lk lc lo ln ct:Int}(h0:0<=a)(h1:a<n):zac (verSt g n cap a v lk lc lo ln ct):=by
 constructor
 rw[verSt_eq]
 refine V.brFo (by simp;omega) (V.brFo (by simp;omega) ?_)
 simp only[ze]
 (repeat' first|with_reducible exact V.okI|with_reducible refine V.brT ?_|with_reducible refine V.brF ?_|with_reducible refine V.brI ?_ ?_|with_reducible refine V.anyI ?_|with_reducible refine nN_h ?_ ?_|with_reducible refine V.needI ?_ ?_|intro _)
 all_goals first|rfl|omega|exact⟨h0,h1⟩|exact True.intro|(simp;done)|(refine⟨by decide,?_⟩;omega)
theorem vhOr{g:Nat->Int}{n cap:Nat}{a v lk lc lo ln ct:Int}(h0:0<=a)(h1:a<n):zac (verOr g n cap a v lk lc lo ln ct):=by
 constructor
 rw[verOr_eq]
 refine V.brFo (by simp;omega) (V.brFo (by simp;omega) ?_)
 simp only[ze]
 (repeat' first|with_reducible exact V.okI|with_reducible refine V.brT ?_|with_reducible refine V.brF ?_|with_reducible refine V.brI ?_ ?_|with_reducible refine V.anyI ?_|with_reducible refine nN_h ?_ ?_|with_reducible refine V.needI ?_ ?_|intro _)
 all_goals first|rfl|omega|exact⟨h0,h1⟩|exact True.intro|(simp;done)|(refine⟨by decide,?_⟩;omega)
theorem vhAnd{g:Nat->Int}{n cap:Nat}{a v lk lc lo ln ct:Int}(h0:0<=a)(h1:a<n):zac (verAnd g n cap a v lk lc lo ln ct):=by
 constructor
 rw[verAnd_eq]
 refine V.brFo (by simp;omega) (V.brFo (by simp;omega) ?_)
 simp only[ze]
 (repeat' first|with_reducible exact V.okI|with_reducible refine V.brT ?_|with_reducible refine V.brF ?_|with_reducible refine V.brI ?_ ?_|with_reducible refine V.anyI ?_|with_reducible refine nN_h ?_ ?_|with_reducible refine V.needI ?_ ?_|intro _)
 all_goals first|rfl|omega|exact⟨h0,h1⟩|exact True.intro|(simp;done)|(refine⟨by decide,?_⟩;omega)
theorem vhCsT{g:Nat->Int}{n cap:Nat}{a v y lk lc lo ln ct:Int}(h0:0<=a)(h1:a<n)(hg:g a.toNat=v):zac (verCsT g n cap a v y lk lc lo ln ct):=by
 constructor
 rw[verCsT_eq]
 refine V.brFo (by simp;omega) (V.brFo (by simp;omega) ?_)
 simp only[ze]
 (repeat' first|with_reducible exact V.okI|with_reducible refine V.brT ?_|with_reducible refine V.brF ?_|with_reducible refine V.brI ?_ ?_|with_reducible refine V.anyI ?_|with_reducible refine nN_h ?_ ?_|with_reducible refine V.needI ?_ ?_|intro _)
 all_goals first|rfl|omega|exact⟨h0,h1⟩|exact True.intro|(simp_all;done)|(refine⟨by decide,?_⟩;omega)
theorem vhCsF{g:Nat->Int}{n cap:Nat}{a v y lk lc lo ln ct:Int}(h0:0<=a)(h1:a<n)(hg:g a.toNat≠v):zac (verCsF g n cap a v y lk lc lo ln ct):=by
 constructor
 rw[verCsF_eq]
 refine V.brFo (by simp;omega) (V.brFo (by simp;omega) ?_)
 simp only[ze]
 (repeat' first|with_reducible exact V.okI|with_reducible refine V.brT ?_|with_reducible refine V.brF ?_|with_reducible refine V.brI ?_ ?_|with_reducible refine V.anyI ?_|with_reducible refine nN_h ?_ ?_|with_reducible refine V.needI ?_ ?_|intro _)
 all_goals first|rfl|omega|exact⟨h0,h1⟩|exact True.intro|(simp_all;done)|(refine⟨by decide,?_⟩;omega)
theorem pre_localn{f:FuncId}{args:List SV}{h0 h1:HL}{n:Nat}{post:Out (SV×Hp)}(h:zai P f args h1 n post)(hle:∀k b,find k h1=some b->∃c,find k h0=some c/\zd6 c b):zai P f args h0 n post:=by
 intro φ ρ w vs K hi hv hh
 have hinv:HInv φ ρ ⟨h1,n,fun _=>True⟩ w:=by
  refine⟨hi.fr,hi.up,?_,?_,?_,?_,?_⟩
  ·intro k b hf;obtain⟨c,hc,_⟩:=hle k b hf;exact hi.lt k c hc
  ·intro k b hf;obtain⟨c,hc,hl⟩:=hle k b hf;exact Blk.sat_le hl (hi.sat k c hc)
  ·intro k b hf i hli y o hy;obtain⟨c,hc,hl⟩:=hle k b hf;exact hi.bd k c hc i (zaq hl hli) y o hy
  ·intro k b hf hr i hli y o hy;obtain⟨c,hc,hl⟩:=hle k b hf;exact hi.may k c hc (zbg hl hr) i (zaq hl hli) y o hy
  ·intro k b hf hr k' b' hf' hne j i hj hi' y o y' o' hy hy'
   obtain⟨c,hc,hl⟩:=hle k b hf
   obtain⟨c',hc',hl'⟩:=hle k' b' hf'
   exact hi.sep k c hc (zbg hl hr) k' c' hc' hne j i (zaq hl hj) (zaq hl' hi') y o y' o' hy hy'
 refine(h φ ρ w vs K hinv hv hh).mono ?_
 rintro e w' ⟨v,ρ',sv,H',a1,a2,a3,a4,a5,a6⟩
 exact⟨v,ρ',sv,H',a1,a2,a3,⟨a4.nxt,a4.D⟩,a5,a6⟩
theorem allI_ck{l:List SC}(hl:allI .u64 l=true){I:Nat->Nat->Prop}:∀(m:List SC) (j:Nat),allI .u64 m=true->(∀e,zca m e=zca l (j+e))->leCk I .u64 (fun _ e=>zca l e) j m
 | [],j,_,_=>trivial
 | c::m,j,hm,hn=>by
  simp only[allI,Bool.and_eq_true]at hm
  refine⟨fun i _=>?_,allI_ck hl m (j+1) hm.2 fun e=>?_⟩
  ·have h0:=hn 0
   have h1:=hm.1
   rw[Nat.add_zero]at h0
   show leSC c (.iv .u64 (zca l j))
   rw[<-h0]
   cases c<;>simp[asI]at h1
   all_goals (have hk:=zas h1;subst hk;exact⟨rfl,rfl⟩)
  ·have:=hn (e+1)
   simp only[zca,List.getElem?_cons_succ]at this ⊢
   rw[this]
   congr 2
   omega
noncomputable section
def mKn(len cap:NV)(lk lc lo ln ct:SC):Blk:=.own 118 6 ([.slc 1 (.k 0) (.k 0) 1 len cap,lk,lc,lo,ln,ct].map some)
def hK(l:List SC)(len cap:NV)(lk lc lo ln ct:SC):HL:=[(0,mKn len cap lk lc lo ln ct),(1,.row 46 cap.v len.v [.ck l])]
def atK(l:List SC)(j:Nat):SC:=match l[j]? with|some c=>c|none=>.nilp
def hK1(l:List SC)(len cap:NV)(kd a:Int)(new:SC)(kn:Bool)(ct:Int):HL:=[(0,mKn len cap (.ki .i64 kd) (.ki .i64 a) (atK l a.toNat) new (knI kn .i64 (i64.wrap (ct+1)))),(1,.row 46 cap.v len.v [.ck (l.set a.toNat new)])]
end
theorem pre_K{l:List SC}{len cap:NV}{lk lc lo ln ct:Int}(hl:allI .u64 l=true)(hn:l.length=len.v)(k:Nat)(b:Blk)(hf:find k (h0S (zca l) len.v cap.v lk lc lo ln ct)=some b):
  ∃c,find k (hK l len cap (i6n lk) (i6n lc) (uwn lo) (uwn ln) (i6n ct))=some c/\zd6 c b:=by
 unfold h0S at hf
 unfold hK
 rw[zag]at hf ⊢
 split at hf
 ·cases hf
  exact⟨_,if_pos ‹_›,rfl,rfl,⟨rfl,rfl,rfl,rfl,rfl,rfl⟩,⟨rfl,rfl⟩,⟨rfl,rfl⟩,⟨rfl,rfl⟩,⟨rfl,rfl⟩,⟨rfl,rfl⟩,trivial⟩
 ·rename_i h
  rw[if_neg h]
  rw[zag]at hf ⊢
  split at hf
  ·cases hf
   refine⟨_,if_pos ‹_›,rfl,rfl,Nat.le_refl _,?_,trivial⟩
   exact⟨fun i e hi=>by have:=hi.2;omega,allI_ck hl l 0 hl fun e=>by rw[ze]⟩
  ·cases hf
theorem same_K{l:List SC}{len cap:NV}{kd a x ct:Int}{new:SC}{kn:Bool}(hl:allI .u64 l=true)(hn:l.length=len.v)(ha:a.toNat<l.length)(hx:∀ρ,new.den ρ=(uwn x).den ρ):
  HLE (h1S (zca l) len.v cap.v kd a x ct) (hK1 l len cap kd a new kn ct):=by
 have hat:l[a.toNat]?=some (atK l a.toNat):=by
  unfold atK
  rw[List.getElem?_eq_getElem ha]
 refine⟨⟨rfl,rfl,rfl,⟨(fun _=>rfl:SCe _ _),fun _=>rfl,fun _=>rfl,fun ρ=>?_,fun ρ=>hx ρ,knI_e _ _ _,trivial⟩⟩,⟨rfl,rfl,rfl,rfl,fun i e c' hc=>?_,trivial⟩,trivial⟩
 ·exact(allI_at hl a.toNat _ hat ρ).symm
 ·simp only[Col.get]at hc ⊢
  refine⟨_,rfl,fun ρ=>?_⟩
  rw[List.getElem?_set]at hc
  by_cases he:a.toNat=e
  ·subst he
   rw[if_pos rfl,if_pos ha]at hc
   cases hc
   rw[if_pos rfl]
   exact hx ρ
  ·rw[if_neg he]at hc
   rw[if_neg (fun h=>he h.symm)]
   exact(allI_at hl e _ hc ρ).symm
theorem local_K{f:FuncId}{args:List SV}{l:List SC}{len cap:NV}{lk lc lo ln ct kd a x:Int}{ret ret':SV}{new:SC}{kn:Bool}
  (h:zai P f args (h0S (zca l) len.v cap.v lk lc lo ln ct) 2 (.leaf (ret,⟨h1S (zca l) len.v cap.v kd a x ct,2,fun _=>True⟩)))
  (hl:allI .u64 l=true) (hn:l.length=len.v) (ha:a.toNat<l.length) (hx:∀ρ,new.den ρ=(uwn x).den ρ) (hr:SVe ret ret'):
  zai P f args (hK l len cap (i6n lk) (i6n lc) (uwn lo) (uwn ln) (i6n ct)) 2 (.leaf (ret',⟨hK1 l len cap kd a new kn ct,2,fun _=>True⟩)):=
 (pre_localn h (pre_K hl hn)).same fun K hK=>⟨ret',_,hr,same_K hl hn ha hx,hK⟩
theorem contract_or{f:FuncId}{u m:Nat}{c:List SV->Hp->Out (SV×Hp)} (hc:∀args H,(∃n,c args H=.bad n)\/(∃σ n args0 h0 post,c args H=useP σ n args0 h0 post args H/\zai P f args0 h0 n post)\/c args H=zfc P con0 noAnn u m f args H\/
  ∃b σ n args0 h0 post σ' n' args0' h0' post',c args H=.br b (useP σ n args0 h0 post args H) (useP σ' n' args0' h0' post' args H)/\zai P f args0 h0 n post/\zai P f args0' h0' n' post'):zab P f c:=by
 intro φ ρ H w args vs K h hv hh
 rcases hc args H with⟨n,e⟩|⟨σ,n,args0,h0,post,e,hl⟩|e|⟨b,σ,n,args0,h0,post,σ',n',args0',h0',post',e,hl,hl'⟩
 ·rw[e]at hh;exact hh.elim
 ·rw[e]at hh
  exact use_ok hl h hv (useP_T hh)
 ·rw[e]at hh
  exact zft (fun _ _ h=>by cases h) m φ ρ H w f args vs K h hv hh
 ·rw[e]at hh
  cases b with
  | true=>exact use_ok hl h hv (useP_T (hh.1 rfl))
  | false=>exact use_ok hl' h hv (useP_T (hh.2 rfl))
structure MK where
 kc:Nat
 len:NV
 cap:NV
 xk:Int
 xc:Int
 xo:Int
 xn:Int
 xt:Int
 kn:Bool
 l:List SC
noncomputable section
def memAt(H:Hp)(km:Nat):Option MK:=match find km H.h with
 | some (.own _ _ [some (.slc kc _ _ _ len cap),some lk,some lc,some lo,some ln,some ct])=>match find kc H.h with
  | some (.row _ _ _ [.ck l])=>match numC lk,numC lc,numC lo,numC ln,numC ct with
   | some xk,some xc,some xo,some xn,some xt=>some ⟨kc,len,cap,xk,xc,xo,xn,xt,kiB ct,l⟩
   | _,_,_,_,_=>none
  | _=>none
 | _=>none
def MK.h(x:MK):HL:=hK x.l x.len x.cap (i6n x.xk) (i6n x.xc) (uwn x.xo) (uwn x.xn) (i6n x.xt)
def MK.ok(x:MK)(a:Int):Bool:=match a with
 | .ofNat n=>Nat.blt n x.l.length&&allI .u64 x.l
 | _=>false
def lenK(x:MK)(k:Out (SV×Hp)):Out (SV×Hp):=match x.len with
 | .k m=>chk (Nat.beq x.l.length m) k 484
 | .s m=>.need (x.l.length=m) k
theorem lenK_h{x:MK}{k:Out (SV×Hp)}{K:SV×Hp->Prop}(h:(lenK x k).holds K):x.l.length=x.len.v/\k.holds K:=by
 unfold lenK at h
 split at h
 ·rename_i m hm
  obtain⟨h1,h2⟩:=zaf h
  rw[hm]
  exact⟨Nat.eq_of_beq_eq_true h1,h2⟩
 ·rename_i m hm
  rw[hm]
  exact h
def MK.post(x:MK)(p:Option Prop)(a:Int)(ret:SV)(kd:Int)(new:SC):Out (SV×Hp):=lenK x (match p with
 | some p=>.need p (.leaf (ret,⟨hK1 x.l x.len x.cap kd a new x.kn x.xt,2,fun _=>True⟩))
 | none=>.leaf (ret,⟨hK1 x.l x.len x.cap kd a new x.kn x.xt,2,fun _=>True⟩))
theorem MK.ok_h{x:MK}{a:Int}(h:x.ok a=true)(hn:x.l.length=x.len.v):0<=a/\a<(x.len.v:Int)/\a.toNat<x.l.length/\allI .u64 x.l=true:=by
 unfold MK.ok at h
 split at h
 ·simp only[Bool.and_eq_true,Nat.blt_eq]at h
  refine⟨Int.natCast_nonneg _,?_,by simpa using h.1,h.2⟩
  rw[<-hn]
  simpa using h.1
 ·cases h
theorem atK_den{l:List SC}(hl:allI .u64 l=true){j:Nat}(hj:j<l.length)(ρ:Rho):(atK l j).den ρ=(uwn (zca l j)).den ρ:=by
 have hat:l[j]?=some (atK l j):=by
  unfold atK
  rw[List.getElem?_eq_getElem hj]
 exact(allI_at hl j _ hat ρ).symm
theorem MK.loc{x:MK}{f:FuncId}{args:List SV}{a v kd:Int}{p:Option Prop}{ret ret':SV}{new:SC}(hok:x.ok a=true)
  (h:p.getD True->0<=a->a<(x.len.v:Int)->zai P f args (h0S (zca x.l) x.len.v x.cap.v x.xk x.xc x.xo x.xn x.xt) 2 (.need True (.leaf (ret,⟨h1S (zca x.l) x.len.v x.cap.v kd a v x.xt,2,fun _=>True⟩))))
  (hx:allI .u64 x.l=true->a.toNat<x.l.length->∀ρ,new.den ρ=(uwn v).den ρ) (hr:allI .u64 x.l=true->a.toNat<x.l.length->SVe ret ret'):zai P f args x.h 2 (x.post p a ret' kd new):=by
 intro φ ρ w vs K hi hv hh
 obtain⟨hn,hh⟩:=lenK_h hh
 obtain⟨hp,hK⟩:p.getD True/\K (ret',⟨hK1 x.l x.len x.cap kd a new x.kn x.xt,2,fun _=>True⟩):=by
  cases p with
  | none=>exact⟨trivial,hh⟩
  | some p=>exact hh
 obtain⟨g0,g1,g2,g3⟩:=MK.ok_h hok hn
 exact local_K ((h hp g0 g1).mono fun K hK=>⟨trivial,hK⟩) g3 hn g2 (hx g3 g2) (hr g3 g2) φ ρ w vs K hi hv hK
def memP(ws:Nat)(f:FuncId)(k:MK->List Nat->Int->List SC->List SV->Hp->Out (SV×Hp)):List SV->Hp->Out (SV×Hp):=fun args H=>match args with
 | .c (.ptr km _ _ _ _)::.c (.ki .i64 a)::rest=>fN km fun km=>match memAt H km with
  | some x=>match x.ok a with
   | true=>k x [km,x.kc] a (rest.filterMap fun|.c c=>some c|_=>none) args H
   | false=>.bad 481
  | none=>zfc P con0 noAnn 3 6 f args H
 | _=>zfc P con0 noAnn 3 6 f args H
def fLdn:FuncId:=180
def fStn:FuncId:=20
def fCsn:FuncId:=193
def fOrn:FuncId:=203
def fAndn:FuncId:=201
def conLd:List SV->Hp->Out (SV×Hp):=memP 0 fLdn fun x σ a r args H=>useP σ 2 [ptMn,.c (i6n a)] x.h (x.post none a (.c (atK x.l a.toNat)) 1 (atK x.l a.toNat)) args H
def conSt:List SV->Hp->Out (SV×Hp):=memP 1 fStn fun x σ a r args H=>match r with
 | [c]=>match numC c with
  | some v=>useP σ 2 [ptMn,.c (i6n a),.c (uwn v)] x.h (x.post none a (.t []) 2 (knI (kiB c) .u64 v)) args H
  | none=>.bad 482
 | _=>.bad 483
def conOr:List SV->Hp->Out (SV×Hp):=memP 1 fOrn fun x σ a r args H=>match r with
 | [c]=>match numC c with
  | some v=>useP σ 2 [ptMn,.c (i6n a),.c (uwn v)] x.h (x.post none a (.c (atK x.l a.toNat)) 4 (knI (kiB c&&kiB (atK x.l a.toNat)) .u64 (bits .or .u64 (zca x.l a.toNat) v))) args H
  | none=>.bad 482
 | _=>.bad 483
def conAnd:List SV->Hp->Out (SV×Hp):=memP 1 fAndn fun x σ a r args H=>match r with
 | [c]=>match numC c with
  | some v=>useP σ 2 [ptMn,.c (i6n a),.c (uwn v)] x.h (x.post none a (.c (atK x.l a.toNat)) 5 (knI (kiB c&&kiB (atK x.l a.toNat)) .u64 (bits .and .u64 (zca x.l a.toNat) v))) args H
  | none=>.bad 482
 | _=>.bad 483
def csT(x:MK)(σ:List Nat)(a v y:Int)(d:SC):List SV->Hp->Out (SV×Hp):=useP σ 2 [ptMn,.c (i6n a),.c (uwn v),.c (uwn y)] x.h (x.post (some (zca x.l a.toNat=v)) a (.c (.kb true)) 3 (knI (kiB d) .u64 y))
def csF(x:MK)(σ:List Nat)(a v y:Int):List SV->Hp->Out (SV×Hp):=useP σ 2 [ptMn,.c (i6n a),.c (uwn v),.c (uwn y)] x.h (x.post (some (zca x.l a.toNat≠v)) a (.c (.kb false)) 3 (atK x.l a.toNat))
def conCs:List SV->Hp->Out (SV×Hp):=memP 2 fCsn fun x σ a r args H=>match r with
 | [c,d]=>match numC c,numC d with
  | some v,some y=>match kiB c&&kiB (atK x.l a.toNat) with
   | true=>match intB (zca x.l a.toNat) v with
    | true=>csT x σ a v y d args H
    | false=>csF x σ a v y args H
   | false=>.br (decide (zca x.l a.toNat=v)) (csT x σ a v y d args H) (csF x σ a v y args H)
  | _,_=>.bad 482
 | _=>.bad 483
theorem memP_ok{ws:Nat}{f:FuncId}{k:MK->List Nat->Int->List SC->List SV->Hp->Out (SV×Hp)}
    (hk:∀x σ a r args H,x.ok a=true->(∃n,k x σ a r args H=.bad n)\/(∃σ' n args0 h0 post,k x σ a r args H=useP σ' n args0 h0 post args H/\zai P f args0 h0 n post)\/
      ∃b σ' n args0 h0 post σ'' n' args0' h0' post',k x σ a r args H=.br b (useP σ' n args0 h0 post args H) (useP σ'' n' args0' h0' post' args H)/\zai P f args0 h0 n post/\zai P f args0' h0' n' post'):zab P f (memP ws f k):=contract_or (u:=3) (m:=6) fun args H=>by
  unfold memP
  simp only[fN_eq]
  repeat' split
  all_goals first
    | exact .inr (.inr (.inl rfl))
    | exact .inl ⟨_,rfl⟩
    | (rename_i h;rcases hk _ _ _ _ _ _ h with h|h|h
       . exact .inl h
       . exact .inr (.inl h)
       . exact .inr (.inr (.inr h)))
theorem conLd_ok:zab P fLdn conLd:=memP_ok fun x σ a r args H hok=>
 .inr (.inl ⟨_,_,_,_,_,rfl,MK.loc hok (fun _ h0 h1=>zah zak.nil fun _=>vhLd h0 h1) (fun hl hj=>atK_den hl hj) (fun hl hj ρ=>atK_den hl hj ρ)⟩)
theorem conSt_ok:zab P fStn conSt:=memP_ok fun x σ a r args H hok=>by
 repeat' split
 all_goals first
  | exact .inl ⟨_,rfl⟩
  | exact .inr (.inl ⟨_,_,_,_,_,rfl,MK.loc hok (fun _ h0 h1=>zah zak.nil fun _=>vhSt h0 h1) (fun hl hj=>knI_e _ _ _) (fun hl hj ρ=>rfl)⟩)
theorem conOr_ok:zab P fOrn conOr:=memP_ok fun x σ a r args H hok=>by
 repeat' split
 all_goals first
  | exact .inl ⟨_,rfl⟩
  | exact .inr (.inl ⟨_,_,_,_,_,rfl,MK.loc hok (fun _ h0 h1=>zah zak.nil fun _=>vhOr h0 h1) (fun hl hj=>knI_e _ _ _) (fun hl hj ρ=>atK_den hl hj ρ)⟩)
theorem conAnd_ok:zab P fAndn conAnd:=memP_ok fun x σ a r args H hok=>by
 repeat' split
 all_goals first
  | exact .inl ⟨_,rfl⟩
  | exact .inr (.inl ⟨_,_,_,_,_,rfl,MK.loc hok (fun _ h0 h1=>zah zak.nil fun _=>vhAnd h0 h1) (fun hl hj=>knI_e _ _ _) (fun hl hj ρ=>atK_den hl hj ρ)⟩)
theorem csT_ok{x:MK}{a v y:Int}{d:SC}(hok:x.ok a=true):zai P fCsn [ptMn,.c (i6n a),.c (uwn v),.c (uwn y)] x.h 2 (x.post (some (zca x.l a.toNat=v)) a (.c (.kb true)) 3 (knI (kiB d) .u64 y)):=
 MK.loc hok (fun hp h0 h1=>zah zak.nil fun _=>vhCsT h0 h1 hp) (fun hl hj=>knI_e _ _ _) (fun hl hj ρ=>rfl)
theorem csF_ok{x:MK}{a v y:Int}(hok:x.ok a=true):zai P fCsn [ptMn,.c (i6n a),.c (uwn v),.c (uwn y)] x.h 2 (x.post (some (zca x.l a.toNat≠v)) a (.c (.kb false)) 3 (atK x.l a.toNat)):=
 MK.loc hok (fun hp h0 h1=>zah zak.nil fun _=>vhCsF h0 h1 hp) (fun hl hj=>atK_den hl hj) (fun hl hj ρ=>rfl)
theorem conCs_ok:zab P fCsn conCs:=memP_ok fun x σ a r args H hok=>by
 repeat' split
 all_goals first
  | exact .inl ⟨_,rfl⟩
  | exact .inr (.inl ⟨_,_,_,_,_,rfl,csT_ok hok⟩)
  | exact .inr (.inl ⟨_,_,_,_,_,rfl,csF_ok hok⟩)
  | exact .inr (.inr ⟨_,_,_,_,_,_,_,_,_,_,_,rfl,csT_ok hok,csF_ok hok⟩)
def conMem(c:Con):Con:=Con.add fLdn conLd (Con.add fStn conSt (Con.add fCsn conCs (Con.add fOrn conOr (Con.add fAndn conAnd (c)))))
theorem conMem_ok{c:Con}(h:zak P c):zak P (conMem c):=.add conLd_ok (.add conSt_ok (.add conCs_ok (.add conOr_ok (.add conAnd_ok (h)))))
end
end Go.Proofs.YtjgldffneablmaaGreat.Vc
namespace Go.Proofs.YtjgldffneablmaaGreat.Vc
open Go Go.RowKit Sx Cn
theorem oneArg{l:List Int}(h:l.length=1):∃x,l=[x]:=match l,h with|[x],_=>⟨x,rfl⟩
def postLenK:List Int->Out SV|[x]=>.need (0<=x/\x<=18446744073709551615) (.leaf (.c (.ki .i64 (Lib.bitLen x.toNat))))|_=>.bad 400
def postLenS:List Int->Out SV|[x]=>.need (0<=x/\x<=18446744073709551615) (.leaf (.c (.iv .i64 (Lib.bitLen x.toNat))))|_=>.bad 400
theorem pureLenK:PureC P 185 [.u64] postLenK:=by
 intro l hl w K hK
 obtain⟨x,rfl⟩:=oneArg hl
 obtain⟨⟨h0,h1⟩,hK⟩:=hK
 refine(bits_Len64 x w h0 h1).mono ?_
 rintro e w' ⟨rfl,rfl⟩
 exact⟨_,_,rfl,hK,fun ρ=>rfl,rfl,rfl,rfl,Nat.le_refl _,fun _ _ _=>rfl⟩
theorem pureLenS:PureC P 185 [.u64] postLenS:=by
 intro l hl w K hK
 obtain⟨x,rfl⟩:=oneArg hl
 obtain⟨⟨h0,h1⟩,hK⟩:=hK
 refine(bits_Len64 x w h0 h1).mono ?_
 rintro e w' ⟨rfl,rfl⟩
 exact⟨_,_,rfl,hK,fun ρ=>rfl,rfl,rfl,rfl,Nat.le_refl _,fun _ _ _=>rfl⟩
noncomputable def conLen:List SV->Hp->Out (SV×Hp):=fun args H=>match args with
 | [.c (.ki _ _)]=>conP [.u64] postLenK args H
 | _=>conP [.u64] postLenS args H
theorem conLen_ok:zab P 185 conLen:=by
 intro φ ρ H w args vs K h hv hh
 unfold conLen at hh
 split at hh
 ·exact conP_ok pureLenK φ ρ H w _ vs K h hv hh
 ·exact conP_ok pureLenS φ ρ H w _ vs K h hv hh
end Go.Proofs.YtjgldffneablmaaGreat.Vc
