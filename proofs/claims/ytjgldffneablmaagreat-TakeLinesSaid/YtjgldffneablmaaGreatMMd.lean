/- A part of the proof. -/
import Derived.Test.YtjgldffneablmaaGreatML
import Derived.Test.YtjgldffneablmaaGreatMW
import Derived.Test.YtjgldffneablmaaGreatMNw
import Derived.Test.YtjgldffneablmaaGreatMNwMem
set_option linter.unusedVariables false
set_option linter.unusedSimpArgs false
set_option maxRecDepth 100000
open Go.IntKind (i64 u64)
open Int renaming ofNat -> O, ofNat_eq_natCast -> Z
open Bool renaming and_eq_true -> zu, not_eq_true' -> z7, not_eq_false' -> za, or_eq_true -> zf, not_eq_true -> zg, and_eq_false_iff -> zb
open Go.Proofs.YtjgldffneablmaaGreat.Sx.V renaming need -> U
namespace Go.Proofs.YtjgldffneablmaaGreat.Md
open Go Go.RowKit Sx Cn Dc Ck Vc
structure Mm where
 g:Nat->Int
 lk:Int
 lc:Int
 lo:Int
 ln:Int
 ct:Int
def inb(n:Nat)(a:Int):Bool:=decide (0<=a)&&decide (a<(n:Int))
def Mm.val(m:Mm)(n:Nat)(a:Int):Int:=bif inb n a then m.g a.toNat else 0
def Mm.acc(m:Mm)(n:Nat)(kd a x:Int):Mm:=bif inb n a then⟨fun e=>if e=a.toNat then x else m.g e,kd,a,m.g a.toNat,x,i64.wrap (m.ct+1)⟩ else m
def Mm.hit(m:Mm)(n:Nat)(a v:Int):Bool:=inb n a&&decide (m.val n a=v)
def casV(b:Bool)(x y:Int):Int:=bif b then y else x
@[simp] theorem Mm.eta (m:Mm):Mm.mk (fun e=>m.g e) m.lk m.lc m.lo m.ln m.ct=m:=rfl
noncomputable section
abbrev uw(n:Int):SC:=.iv .u64 n
abbrev i6(n:Int):SC:=.iv .i64 n
def mO(n cap:Nat)(lk lc lo ln ct:SC):Blk:=.own 118 6 ([.slc 1 (.k 0) (.k 0) 1 (.s n) (.s cap),lk,lc,lo,ln,ct].map some)
def hM(n cap:Nat)(m:Mm):HL:=[(0,mO n cap (i6 m.lk) (i6 m.lc) (uw m.lo) (uw m.ln) (i6 m.ct)),(1,.row 46 cap n [.ci .u64 fun _ e=>m.g e])]
def hV(n cap:Nat)(m:Mm):HL:=[(0,.view 1 (fun _=>1) [.ck [.slc 1 (.k 0) (.k 0) 1 (.s n) (.s cap)],.cu,.cu,.cu,.cu,.ck [i6 m.ct]]),(1,.view 1 (fun _=>n) [.ci .u64 fun _ e=>m.g e])]
def finMm(ret:SV)(n cap:Nat)(m:Mm):SV->Hp->V:=finV (X:=Unit) 2 2 (fun _ _=>some ()) (fun _ _=>[]) (fun _=>True) (fun _=>ret) (fun _=>hM n cap m)
def ptM:SV:=.c (.ptr 0 (.k 0) (.k 0) 0 6)
def fLd:FuncId:=180
def fSt:FuncId:=20
def fCs:FuncId:=193
def fOr:FuncId:=203
def fAnd:FuncId:=201
def fCt:FuncId:=30
section
variable (n cap:Nat) (m:Mm) (a v y:Int)
def vMLd:V:=verF P con0 3 6 fLd [] .nil [ptM,.c (i6 a)] ⟨hM n cap m,2,fun _=>True⟩ (finMm (.c (uw (m.val n a))) n cap (m.acc n 1 a (m.val n a)))
def vMSt:V:=verF P con0 3 6 fSt [] .nil [ptM,.c (i6 a),.c (uw v)] ⟨hM n cap m,2,fun _=>True⟩ (finMm (.t []) n cap (m.acc n 2 a v))
def vMOr:V:=verF P con0 3 6 fOr [] .nil [ptM,.c (i6 a),.c (uw v)] ⟨hM n cap m,2,fun _=>True⟩ (finMm (.c (uw (m.val n a))) n cap (m.acc n 4 a (bits .or .u64 (m.val n a) v)))
def vMAnd:V:=verF P con0 3 6 fAnd [] .nil [ptM,.c (i6 a),.c (uw v)] ⟨hM n cap m,2,fun _=>True⟩ (finMm (.c (uw (m.val n a))) n cap (m.acc n 5 a (bits .and .u64 (m.val n a) v)))
def vMCs:V:=verF P con0 3 6 fCs [] .nil [ptM,.c (i6 a),.c (uw v),.c (uw y)] ⟨hM n cap m,2,fun _=>True⟩ (finMm (.c (.bv (m.hit n a v))) n cap (m.acc n 3 a (casV (m.hit n a v) (m.val n a) y)))
def vMCt:V:=verF P con0 3 6 fCt [] .nil [ptM] ⟨hV n cap m,2,fun _=>True⟩ (finV (X:=Unit) 2 2 (fun _ _=>some ()) (fun _ _=>[]) (fun _=>True) (fun _=>.c (i6 m.ct)) (fun _=>[]))
end
end
abbrev mm0(a0 a1:Nat)(l:LP):LP:=(1,.pf (a0=a0) rfl)::(1,.pf (a1=a1) rfl)::l
abbrev mm1(a0 a1:Nat)(k:V):V:=nN [(1,.pf (a0=a0) rfl)] (U (a1<=a1) k)
abbrev mm3(a0:Mm)(a1:Nat)(a2:Int)(k:V):V:=U True (U (O 0=a0.val a1 a2) k)
abbrev mms3(m:Mm)(n:Nat)(a:Int)(cap:Nat):V:=mm3 m n a (nN (mm0 n cap []) (U (m.lk=(m.acc n (O 1) a (m.val n a)).lk) (U (m.lc=(m.acc n (O 1) a (m.val n a)).lc) (U (m.lo=(m.acc n (O 1) a (m.val n a)).lo) (U (m.ln=(m.acc n (O 1) a (m.val n a)).ln) (U (m.ct=(m.acc n (O 1) a (m.val n a)).ct) (mm1 cap n (U (∀(e:Nat),e<n->m.g e=(m.acc n (O 1) a (m.val n a)).g e) V.ok))))))))
abbrev mm2(a0:Int)(a1:Nat)(k:V):V:=U (O 0<=a0/\a0<(↑a1:Int)) (U (0+a0.toNat<a1) (U (0+a0.toNat<a1) k))
abbrev mm4(a0:Int)(a1:Nat)(k:V):V:=U (O 0<=a0/\a0<(↑a1:Int)) (U (0<1/\0+a0.toNat<a1) (U (0+a0.toNat<a1) k))
abbrev mm5(a0:Int)(a1:Nat)(k:V):V:=mm2 a0 a1 (U True k)
theorem vMLd_eq(n cap:Nat)(m:Mm)(a:Int):vMLd n cap m a=
 V.br (decide (a<O 0)) (mms3 m n a cap) (V.br (decide (a >= (↑n:Int))) (mms3 m n a cap) (mm2 a n (nN [(3,.lt2 0 1 0 1)] (mm4 a n (mm5 a n (U (m.g (0+a.toNat)=m.val n a) (nN (mm0 n cap []) (U (O 1=(m.acc n (O 1) a (m.val n a)).lk) (U (a=(m.acc n (O 1) a (m.val n a)).lc) (U (m.g (0+a.toNat)=(m.acc n (O 1) a (m.val n a)).lo) (U ((if 0=0/\0+a.toNat=0+a.toNat then m.g (0+a.toNat) else m.g (0+a.toNat))=(m.acc n (O 1) a (m.val n a)).ln) (U (i64.wrap (m.ct+O 1)=(m.acc n (O 1) a (m.val n a)).ct) (mm1 cap n (U (∀(e:Nat),e<n->(if 0=0/\e=0+a.toNat then m.g (0+a.toNat) else m.g e)=(m.acc n (O 1) a (m.val n a)).g e) V.ok)))))))))))))):=by kernel_rfl
abbrev mms4(n cap:Nat)(m:Mm)(a v:Int):V:=U True (nN (mm0 n cap []) (U (m.lk=(m.acc n (O 2) a v).lk) (U (m.lc=(m.acc n (O 2) a v).lc) (U (m.lo=(m.acc n (O 2) a v).lo) (U (m.ln=(m.acc n (O 2) a v).ln) (U (m.ct=(m.acc n (O 2) a v).ct) (mm1 cap n (U (∀(e:Nat),e<n->m.g e=(m.acc n (O 2) a v).g e) V.ok))))))))
theorem vMSt_eq(n cap:Nat)(m:Mm)(a v:Int):vMSt n cap m a v=
 V.br (decide (a<O 0)) (mms4 n cap m a v) (V.br (decide (a >= (↑n:Int))) (mms4 n cap m a v) (mm2 a n (nN [(4,.lt2 0 1 0 1)] (mm4 a n (mm5 a n (nN (mm0 n cap []) (U (O 2=(m.acc n (O 2) a v).lk) (U (a=(m.acc n (O 2) a v).lc) (U (m.g (0+a.toNat)=(m.acc n (O 2) a v).lo) (U ((if 0=0/\0+a.toNat=0+a.toNat then v else m.g (0+a.toNat))=(m.acc n (O 2) a v).ln) (U (i64.wrap (m.ct+O 1)=(m.acc n (O 2) a v).ct) (mm1 cap n (U (∀(e:Nat),e<n->(if 0=0/\e=0+a.toNat then v else m.g e)=(m.acc n (O 2) a v).g e) V.ok))))))))))))):=by kernel_rfl
abbrev mms1(m:Mm)(n:Nat)(a:Int)(cap:Nat)(v:Int):V:=mm3 m n a (nN (mm0 n cap []) (U (m.lk=(m.acc n (O 4) a (bits BinOp.or IntKind.u64 (m.val n a) v)).lk) (U (m.lc=(m.acc n (O 4) a (bits BinOp.or IntKind.u64 (m.val n a) v)).lc) (U (m.lo=(m.acc n (O 4) a (bits BinOp.or IntKind.u64 (m.val n a) v)).lo) (U (m.ln=(m.acc n (O 4) a (bits BinOp.or IntKind.u64 (m.val n a) v)).ln) (U (m.ct=(m.acc n (O 4) a (bits BinOp.or IntKind.u64 (m.val n a) v)).ct) (mm1 cap n (U (∀(e:Nat),e<n->m.g e=(m.acc n (O 4) a (bits BinOp.or IntKind.u64 (m.val n a) v)).g e) V.ok))))))))
theorem vMOr_eq(n cap:Nat)(m:Mm)(a v:Int):vMOr n cap m a v=
 V.br (decide (a<O 0)) (mms1 m n a cap v) (V.br (decide (a >= (↑n:Int))) (mms1 m n a cap v) (mm2 a n (nN [(4,.lt2 0 1 0 1)] (mm4 a n (mm5 a n (U (m.g (0+a.toNat)=m.val n a) (nN (mm0 n cap []) (U (O 4=(m.acc n (O 4) a (bits BinOp.or IntKind.u64 (m.val n a) v)).lk) (U (a=(m.acc n (O 4) a (bits BinOp.or IntKind.u64 (m.val n a) v)).lc) (U (m.g (0+a.toNat)=(m.acc n (O 4) a (bits BinOp.or IntKind.u64 (m.val n a) v)).lo) (U ((if 0=0/\0+a.toNat=0+a.toNat then bits BinOp.or IntKind.u64 (m.g (0+a.toNat)) v else m.g (0+a.toNat))=(m.acc n (O 4) a (bits BinOp.or IntKind.u64 (m.val n a) v)).ln) (U (i64.wrap (m.ct+O 1)=(m.acc n (O 4) a (bits BinOp.or IntKind.u64 (m.val n a) v)).ct) (mm1 cap n (U (∀(e:Nat),e<n->(if 0=0/\e=0+a.toNat then bits BinOp.or IntKind.u64 (m.g (0+a.toNat)) v else m.g e)=(m.acc n (O 4) a (bits BinOp.or IntKind.u64 (m.val n a) v)).g e) V.ok)))))))))))))):=by kernel_rfl
abbrev mms0(m:Mm)(n:Nat)(a:Int)(cap:Nat)(v:Int):V:=mm3 m n a (nN (mm0 n cap []) (U (m.lk=(m.acc n (O 5) a (bits BinOp.and IntKind.u64 (m.val n a) v)).lk) (U (m.lc=(m.acc n (O 5) a (bits BinOp.and IntKind.u64 (m.val n a) v)).lc) (U (m.lo=(m.acc n (O 5) a (bits BinOp.and IntKind.u64 (m.val n a) v)).lo) (U (m.ln=(m.acc n (O 5) a (bits BinOp.and IntKind.u64 (m.val n a) v)).ln) (U (m.ct=(m.acc n (O 5) a (bits BinOp.and IntKind.u64 (m.val n a) v)).ct) (mm1 cap n (U (∀(e:Nat),e<n->m.g e=(m.acc n (O 5) a (bits BinOp.and IntKind.u64 (m.val n a) v)).g e) V.ok))))))))
theorem vMAnd_eq(n cap:Nat)(m:Mm)(a v:Int):vMAnd n cap m a v=
 V.br (decide (a<O 0)) (mms0 m n a cap v) (V.br (decide (a >= (↑n:Int))) (mms0 m n a cap v) (mm2 a n (nN [(4,.lt2 0 1 0 1)] (mm4 a n (mm5 a n (U (m.g (0+a.toNat)=m.val n a) (nN (mm0 n cap []) (U (O 5=(m.acc n (O 5) a (bits BinOp.and IntKind.u64 (m.val n a) v)).lk) (U (a=(m.acc n (O 5) a (bits BinOp.and IntKind.u64 (m.val n a) v)).lc) (U (m.g (0+a.toNat)=(m.acc n (O 5) a (bits BinOp.and IntKind.u64 (m.val n a) v)).lo) (U ((if 0=0/\0+a.toNat=0+a.toNat then bits BinOp.and IntKind.u64 (m.g (0+a.toNat)) v else m.g (0+a.toNat))=(m.acc n (O 5) a (bits BinOp.and IntKind.u64 (m.val n a) v)).ln) (U (i64.wrap (m.ct+O 1)=(m.acc n (O 5) a (bits BinOp.and IntKind.u64 (m.val n a) v)).ct) (mm1 cap n (U (∀(e:Nat),e<n->(if 0=0/\e=0+a.toNat then bits BinOp.and IntKind.u64 (m.g (0+a.toNat)) v else m.g e)=(m.acc n (O 5) a (bits BinOp.and IntKind.u64 (m.val n a) v)).g e) V.ok)))))))))))))):=by kernel_rfl
abbrev mms2(m:Mm)(n:Nat)(a v:Int)(cap:Nat)(y:Int):V:=U True (U (false=m.hit n a v) (nN (mm0 n cap []) (U (m.lk=(m.acc n (O 3) a (casV (m.hit n a v) (m.val n a) y)).lk) (U (m.lc=(m.acc n (O 3) a (casV (m.hit n a v) (m.val n a) y)).lc) (U (m.lo=(m.acc n (O 3) a (casV (m.hit n a v) (m.val n a) y)).lo) (U (m.ln=(m.acc n (O 3) a (casV (m.hit n a v) (m.val n a) y)).ln) (U (m.ct=(m.acc n (O 3) a (casV (m.hit n a v) (m.val n a) y)).ct) (mm1 cap n (U (∀(e:Nat),e<n->m.g e=(m.acc n (O 3) a (casV (m.hit n a v) (m.val n a) y)).g e) V.ok)))))))))
theorem vMCs_eq(n cap:Nat)(m:Mm)(a v y:Int):vMCs n cap m a v y=
 V.br (decide (a<O 0)) (mms2 m n a v cap y) (V.br (decide (a >= (↑n:Int))) (mms2 m n a v cap y) (mm2 a n (nN [(4,.lt2 0 1 0 1)] (V.br (m.g (0+a.toNat) == v) (nN [(1,.lt2 0 1 0 1)] (mm4 a n (mm5 a n (U ((m.g (0+a.toNat) == v)=m.hit n a v) (nN (mm0 n cap []) (U (O 3=(m.acc n (O 3) a (casV (m.hit n a v) (m.val n a) y)).lk) (U (a=(m.acc n (O 3) a (casV (m.hit n a v) (m.val n a) y)).lc) (U (m.g (0+a.toNat)=(m.acc n (O 3) a (casV (m.hit n a v) (m.val n a) y)).lo) (U ((if 0=0/\0+a.toNat=0+a.toNat then y else m.g (0+a.toNat))=(m.acc n (O 3) a (casV (m.hit n a v) (m.val n a) y)).ln) (U (i64.wrap (m.ct+O 1)=(m.acc n (O 3) a (casV (m.hit n a v) (m.val n a) y)).ct) (mm1 cap n (U (∀(e:Nat),e<n->(if 0=0/\e=0+a.toNat then y else m.g e)=(m.acc n (O 3) a (casV (m.hit n a v) (m.val n a) y)).g e) V.ok)))))))))))) (mm4 a n (mm5 a n (U ((m.g (0+a.toNat) == v)=m.hit n a v) (nN (mm0 n cap []) (U (O 3=(m.acc n (O 3) a (casV (m.hit n a v) (m.val n a) y)).lk) (U (a=(m.acc n (O 3) a (casV (m.hit n a v) (m.val n a) y)).lc) (U (m.g (0+a.toNat)=(m.acc n (O 3) a (casV (m.hit n a v) (m.val n a) y)).lo) (U ((if 0=0/\0+a.toNat=0+a.toNat then m.g (0+a.toNat) else m.g (0+a.toNat))=(m.acc n (O 3) a (casV (m.hit n a v) (m.val n a) y)).ln) (U (i64.wrap (m.ct+O 1)=(m.acc n (O 3) a (casV (m.hit n a v) (m.val n a) y)).ct) (mm1 cap n (U (∀(e:Nat),e<n->(if 0=0/\e=0+a.toNat then m.g (0+a.toNat) else m.g e)=(m.acc n (O 3) a (casV (m.hit n a v) (m.val n a) y)).g e) V.ok))))))))))))))):=by kernel_rfl
theorem vMCt_eq(n cap:Nat)(m:Mm):vMCt n cap m=
 nN [(3,.lt2 0 1 0 1)] (U True (nN [(1,.pf (m.ct=m.ct) rfl)] V.ok)):=by kernel_rfl
theorem inb_t{n:Nat}{a:Int}(h0:0<=a)(h1:a<(n:Int)):inb n a=true:=by simp[inb,h0,h1]
theorem zgr{n:Nat}{a:Int}(h:a<0\/(n:Int)<=a):inb n a=false:=by
 unfold inb
 rcases h with h|h
 ·rw[decide_eq_false (by omega)];rfl
 ·rw[decide_eq_false (p:=a<(n:Int)) (by omega),Bool.and_false]
section
variable {n cap:Nat} {m:Mm} {a v y:Int}
theorem vhMLd:zac (vMLd n cap m a):=by
 constructor
 rw[vMLd_eq]
 (with_reducible repeat' first|exact V.okI|refine V.brT ?_|refine V.brF ?_|refine V.brI ?_ ?_|refine V.anyI ?_|refine nN_h rfl ?_|refine V.needI ?_ ?_|intro _)
 all_goals (simp only[decide_eq_true_eq,decide_eq_false_iff_not,Z,z7,za,ge_iff_le,gt_iff_lt,zu,zf,zg,zb]at *)
 all_goals first|omega|(have hb:inb n a=false:=zgr (by omega);simp[Mm.val,Mm.acc,hb];done)|(have hb:inb n a=true:=inb_t (by omega) (by omega);simp[Mm.val,Mm.acc,hb];done)|trace_state
theorem vhMSt:zac (vMSt n cap m a v):=by
 constructor
 rw[vMSt_eq]
 (with_reducible repeat' first|exact V.okI|refine V.brT ?_|refine V.brF ?_|refine V.brI ?_ ?_|refine V.anyI ?_|refine nN_h rfl ?_|refine V.needI ?_ ?_|intro _)
 all_goals (simp only[decide_eq_true_eq,decide_eq_false_iff_not,Z,z7,za,ge_iff_le,gt_iff_lt,zu,zf,zg,zb]at *)
 all_goals first|omega|(have hb:inb n a=false:=zgr (by omega);simp[Mm.val,Mm.acc,hb];done)|(have hb:inb n a=true:=inb_t (by omega) (by omega);simp[Mm.val,Mm.acc,hb];done)|trace_state
theorem vhMOr:zac (vMOr n cap m a v):=by
 constructor
 rw[vMOr_eq]
 (with_reducible repeat' first|exact V.okI|refine V.brT ?_|refine V.brF ?_|refine V.brI ?_ ?_|refine V.anyI ?_|refine nN_h rfl ?_|refine V.needI ?_ ?_|intro _)
 all_goals (simp only[decide_eq_true_eq,decide_eq_false_iff_not,Z,z7,za,ge_iff_le,gt_iff_lt,zu,zf,zg,zb]at *)
 all_goals first|omega|(have hb:inb n a=false:=zgr (by omega);simp[Mm.val,Mm.acc,hb];done)|(have hb:inb n a=true:=inb_t (by omega) (by omega);simp[Mm.val,Mm.acc,hb];done)|trace_state
theorem vhMAnd:zac (vMAnd n cap m a v):=by
 constructor
 rw[vMAnd_eq]
 (with_reducible repeat' first|exact V.okI|refine V.brT ?_|refine V.brF ?_|refine V.brI ?_ ?_|refine V.anyI ?_|refine nN_h rfl ?_|refine V.needI ?_ ?_|intro _)
 all_goals (simp only[decide_eq_true_eq,decide_eq_false_iff_not,Z,z7,za,ge_iff_le,gt_iff_lt,zu,zf,zg,zb]at *)
 all_goals first|omega|(have hb:inb n a=false:=zgr (by omega);simp[Mm.val,Mm.acc,hb];done)|(have hb:inb n a=true:=inb_t (by omega) (by omega);simp[Mm.val,Mm.acc,hb];done)|trace_state
theorem vhMCs:zac (vMCs n cap m a v y):=by
 constructor
 rw[vMCs_eq]
 (with_reducible repeat' first|exact V.okI|refine V.brT ?_|refine V.brF ?_|refine V.brI ?_ ?_|refine V.anyI ?_|refine nN_h rfl ?_|refine V.needI ?_ ?_|intro _)
 all_goals (simp only[decide_eq_true_eq,decide_eq_false_iff_not,Z,z7,za,ge_iff_le,gt_iff_lt,zu,zf,zg,zb]at *)
 all_goals first|omega|(have hb:inb n a=false:=zgr (by omega);simp[Mm.val,Mm.acc,Mm.hit,casV,hb];done)|(have hb:inb n a=true:=inb_t (by omega) (by omega);simp_all [Mm.val,Mm.acc,Mm.hit,casV,hb];done)|trace_state
theorem vhMCt:zac (vMCt n cap m):=by
 constructor
 rw[vMCt_eq]
 (with_reducible repeat' first|exact V.okI|refine V.brT ?_|refine V.brF ?_|refine V.brI ?_ ?_|refine V.anyI ?_|refine nN_h rfl ?_|refine V.needI ?_ ?_|intro _)
 all_goals first|exact True.intro|rfl|trace_state
end
theorem zfr{P:Program}{f:FuncId}{args:List SV}{h0 h1:HL}{n:Nat}{post:Out (SV×Hp)}(h:zai P f args h1 n post)(hle:∀k b,find k h1=some b->∃c,find k h0=some c/\zd6 c b):zai P f args h0 n post:=by
 intro φ ρ w vs K hi hv hh
 have hinv:HInv φ ρ ⟨h1,n,fun _=>True⟩ w:=by
  refine⟨hi.fr,hi.up,?_,?_,?_,?_,?_⟩
  ·intro k b hf;obtain⟨c,hc,_⟩:=hle k b hf;exact hi.lt k c hc
  ·intro k b hf;obtain⟨c,hc,hl⟩:=hle k b hf;exact Blk.sat_le hl (hi.sat k c hc)
  ·intro k b hf i hli y o hy;obtain⟨c,hc,hl⟩:=hle k b hf;exact hi.bd k c hc i (zaq hl hli) y o hy
  ·intro k b hf hr i hli y o hy;obtain⟨c,hc,hl⟩:=hle k b hf;exact hi.may k c hc (zbg hl hr) i (zaq hl hli) y o hy
  ·intro k b hf hr k' b' hf' hne j i hj hi' y o y' o' hy hy'
   obtain⟨c,hc,hl⟩:=hle k b hf
   obtain⟨c',hc',hl'⟩:=hle k' b' hf'
   exact hi.sep k c hc (zbg hl hr) k' c' hc' hne j i (zaq hl hj) (zaq hl' hi') y o y' o' hy hy'
 refine(h φ ρ w vs K hinv hv hh).mono ?_
 rintro e w' ⟨v,ρ',sv,H',a1,a2,a3,a4,a5,a6⟩
 exact⟨v,ρ',sv,H',a1,a2,a3,⟨a4.nxt,a4.D⟩,a5,a6⟩
structure MP where
 kc:Nat
 len:NV
 cap:NV
 m:Mm
noncomputable section
def colC:Col->Option SC
 | .ck [c]=>some c
 | .cc c=>some c
 | _=>none
def cellsB:Blk->List (Option SC)
 | .own _ _ cs=>cs
 | .view _ _ cols=>cols.map colC
 | _=>[]
def zfj:Blk->List Col
 | .row _ _ _ cols=>cols
 | .view _ _ cols=>cols
 | _=>[]
def colG:Col->Option (Nat->Int)
 | .ci _ g=>some fun e=>g 0 e
 | .cc c=>match numC c with
  | some v=>some fun _=>v
  | none=>none
 | .ck l=>some fun e=>zca l e
 | _=>none
def rdMm(H:HL)(km:Nat):Option MP:=match find km H with
 | some b=>match cellsB b with
  | [some (.slc kc _ _ _ len cap),some lk,some lc,some lo,some ln,some ct]=>match numC lk,numC lc,numC lo,numC ln,numC ct with
   | some xk,some xc,some xo,some xn,some xt=>match find kc H with
    | some c=>match zfj c with
     | [col]=>match colG col with
      | some g=>some ⟨kc,len,cap,⟨fun e=>g e,xk,xc,xo,xn,xt⟩⟩
      | none=>none
     | _=>none
    | none=>none
   | _,_,_,_,_=>none
  | _=>none
 | none=>none
def mK(len cap:NV)(lk lc lo ln ct:SC):Blk:=.own 118 6 ([.slc 1 (.k 0) (.k 0) 1 len cap,lk,lc,lo,ln,ct].map some)
def hN(len cap:NV)(m:Mm):HL:=[(0,mK len cap (i6 m.lk) (i6 m.lc) (uw m.lo) (uw m.ln) (i6 m.ct)),(1,.row 46 cap.v len.v [.ci .u64 fun _ e=>m.g e])]
def hW(len cap:NV)(m:Mm):HL:=[(0,.view 1 (fun _=>1) [.ck [.slc 1 (.k 0) (.k 0) 1 len cap],.cu,.cu,.cu,.cu,.ck [i6 m.ct]]),(1,.view 1 (fun _=>len.v) [.ci .u64 fun _ e=>m.g e])]
def outU(len cap:NV)(M:Mm):Out (SV×Hp):=.any Mm (fun m'=>m'=M) fun m'=>.leaf (.t [],⟨hN len cap m',2,fun _=>True⟩)
end
theorem pre_N{len cap:NV}{m:Mm}(k:Nat)(b:Blk)(hf:find k (hM len.v cap.v m)=some b):∃c,find k (hN len cap m)=some c/\zd6 c b:=by
 unfold hM at hf
 unfold hN
 rw[zag]at hf ⊢
 split at hf
 ·cases hf
  exact⟨_,if_pos ‹_›,rfl,rfl,⟨rfl,rfl,rfl,rfl,rfl,rfl⟩,⟨rfl,rfl⟩,⟨rfl,rfl⟩,⟨rfl,rfl⟩,⟨rfl,rfl⟩,⟨rfl,rfl⟩,trivial⟩
 ·rename_i h
  rw[if_neg h]
  rw[zag]at hf ⊢
  split at hf
  ·cases hf
   exact⟨_,if_pos ‹_›,rfl,rfl,Nat.le_refl _,⟨rfl,fun _ _ _=>rfl⟩,trivial⟩
  ·cases hf
theorem pre_W{len cap:NV}{m:Mm}(k:Nat)(b:Blk)(hf:find k (hV len.v cap.v m)=some b):∃c,find k (hW len cap m)=some c/\zd6 c b:=by
 unfold hV at hf
 unfold hW
 rw[zag]at hf ⊢
 split at hf
 ·cases hf
  exact⟨_,if_pos ‹_›,Nat.le_refl _,fun _ _=>Nat.le_refl _,⟨⟨rfl,rfl,rfl,rfl,rfl,rfl⟩,trivial⟩,trivial,trivial,trivial,trivial,⟨⟨rfl,rfl⟩,trivial⟩,trivial⟩
 ·rename_i h
  rw[if_neg h]
  rw[zag]at hf ⊢
  split at hf
  ·cases hf
   exact⟨_,if_pos ‹_›,Nat.le_refl _,fun _ _=>Nat.le_refl _,⟨rfl,fun _ _ _=>rfl⟩,trivial⟩
  ·cases hf
theorem same_N{len cap:NV}{m:Mm}:HLE (hM len.v cap.v m) (hN len cap m):=
 ⟨⟨rfl,rfl,rfl,⟨(fun _=>rfl:SCe _ _),fun _=>rfl,fun _=>rfl,fun _=>rfl,fun _=>rfl,fun _=>rfl,trivial⟩⟩,⟨rfl,rfl,rfl,rfl,ColE.refl _,trivial⟩,trivial⟩
section
variable {f:FuncId} {args:List SV} {len cap:NV} {m M:Mm}
theorem name_U(h:zai P f args (hM len.v cap.v m) 2 (.need True (.leaf (.t [],⟨hM len.v cap.v M,2,fun _=>True⟩)))):zai P f args (hN len cap m) 2 (outU len cap M):=
 (zfr h pre_N).same fun K hK=>⟨trivial,_,_,SVe.refl _,same_N,hK.2 M rfl⟩
end
noncomputable section
def nums:List SV->Option (List Int)
 | []=>some []
 | .c c::l=>match numC c,nums l with
  | some x,some xs=>some (x::xs)
  | _,_=>none
 | _=>none
def nacc(k:MP->List Nat->List Int->List SV->Hp->Out (SV×Hp)):List SV->Hp->Out (SV×Hp):=fun args H=>match args with
 | .c (.ptr km _ _ _ _)::rest=>fN km fun km=>match rdMm H.h km,nums rest with
  | some x,some r=>k x [km,x.kc] r args H
  | _,_=>.bad 480
 | _=>.bad 481
def nSt:List SV->Hp->Out (SV×Hp):=nacc fun x σ r=>match r with
 | [a,v]=>useP σ 2 [ptM,.c (i6 a),.c (uw v)] (hN x.len x.cap x.m) (outU x.len x.cap (x.m.acc x.len.v 2 a v))
 | _=>fun _ _=>.bad 482
theorem zgm{f:FuncId}{k:MP->List Nat->List Int->List SV->Hp->Out (SV×Hp)}(hk:∀x σ r args H,(∃n,k x σ r args H=.bad n)\/∃σ' n args0 h0 post,k x σ r args H=useP σ' n args0 h0 post args H/\zai P f args0 h0 n post):zab P f (nacc k):=zad fun args H=>by
 unfold nacc
 simp only[fN_eq]
 repeat' split
 all_goals first
  | exact .inl ⟨_,rfl⟩
  | exact hk _ _ _ _ _
theorem nSt_ok:zab P fSt nSt:=zgm fun x σ r args H=>by
 repeat' split
 all_goals first|exact .inl ⟨_,rfl⟩|exact .inr ⟨_,_,_,_,_,rfl,name_U (zah zak.nil fun _=>vhMSt)⟩
end
noncomputable section
end
noncomputable section
def zaw(k f:Nat)(h:HL):Option SC:=match find k h with
 | some b=>((cellsB b)[f]?).join
 | _=>none
def scK:Option SC->Nat
 | some (.ptr k _ _ _ _)=>k
 | some (.slc k _ _ _ _ _)=>k
 | some (.ifc _ k _ _ _ _)=>k
 | _=>0
def tmK(t:Nat)(s:St):Nat:=match (s.tmps[t]?:Option (Option SV)) with
 | some (some (.c c))=>scK (some c)
 | _=>0
def envM(t:Nat)(s:St):Nat:=scK (zaw (tmK t s) 22 s.H.h)
def envC(t:Nat)(s:St):Nat:=scK (zaw (envM t s) 0 s.H.h)
def tmI(t:Nat)(s:St):Option Int:=match (s.tmps[t]?:Option (Option SV)) with
 | some (some (.c c))=>numC c
 | _=>none
def tmB(t:Nat)(s:St):Option Bool:=match (s.tmps[t]?:Option (Option SV)) with
 | some (some sv)=>(asB sv).map fun r=>r.2
 | _=>none
def envE(t:Nat)(s:St):Nat:=scK (zaw (tmK t s) 25 s.H.h)
def rowCols(k:Nat)(h:HL):List Col:=match find k h with
 | some b=>zfj b
 | _=>[]
structure Evs where
 k:Nat->Int
 w:Nat->Int
 t:Nat->Int
 o:Nat->Int
 l:Nat->Int
def Evs.cols(v:Evs):List Col:=[.ci .i64 fun _ e=>v.k e,.ci .i64 fun _ e=>v.w e,.ci .i64 fun _ e=>v.t e,.ci .i64 fun _ e=>v.o e,.ci .i64 fun _ e=>v.l e]
def rdEv(k:Nat)(h:HL):Option Evs:=match rowCols k h with
 | [a,b,c,d,e]=>match colG a,colG b,colG c,colG d,colG e with
  | some a,some b,some c,some d,some e=>some ⟨fun i=>a i,fun i=>b i,fun i=>c i,fun i=>d i,fun i=>e i⟩
  | _,_,_,_,_=>none
 | _=>none
def noEv:List Col:=[.ci .i64 fun _ _=>0,.ci .i64 fun _ _=>0,.ci .i64 fun _ _=>0,.ci .i64 fun _ _=>0,.ci .i64 fun _ _=>0]
end
section
variable {m:Mm} {n:Nat} {kd a x:Int}
def Mm.ok(m:Mm):Prop:=∀e,0<=m.g e/\m.g e<=18446744073709551615
theorem Mm.ok_acc(hm:∀e,0<=m.g e/\m.g e<=18446744073709551615)(hx:0<=x/\x<=18446744073709551615):∀e,0<=(m.acc n kd a x).g e/\(m.acc n kd a x).g e<=18446744073709551615:=fun e=>by
 unfold Mm.acc
 cases hb:inb n a with
 | false=>exact hm e
 | true=>
  show 0<=(if e=a.toNat then x else m.g e)/\(if e=a.toNat then x else m.g e)<=18446744073709551615
  split
  ·exact hx
  ·exact hm e
theorem zgs(x:Int):0<=u64.wrap x/\u64.wrap x<=18446744073709551615:=by
 have h:u64.wrap x=x % 18446744073709551616:=by unfold IntKind.wrap;rfl
 rw[h]
 omega
theorem bits_ok(op:BinOp){a b:Int}:0<=bits op .u64 a b/\bits op .u64 a b<=18446744073709551615:=by
 unfold bits
 exact zgs _
theorem casV_ok{b:Bool}{p q:Int}(hp:0<=p/\p<=18446744073709551615)(hq:0<=q/\q<=18446744073709551615):0<=casV b p q/\casV b p q<=18446744073709551615:=by
 cases b
 ·exact hp
 ·exact hq
end
theorem l1:i64.wrap (1+1)=2:=w64 (by omega)
theorem l2:i64.wrap (2+1)=3:=w64 (by omega)
theorem l3:i64.wrap (3+1)=4:=w64 (by omega)
theorem k2:i64.wrap 2=2:=w64 (by omega)
theorem k3:i64.wrap 3=3:=w64 (by omega)
theorem k4:i64.wrap 4=4:=w64 (by omega)
theorem k5:i64.wrap 5=5:=w64 (by omega)
theorem k6:i64.wrap 6=6:=w64 (by omega)
theorem k7:i64.wrap 7=7:=w64 (by omega)
theorem k8:i64.wrap 8=8:=w64 (by omega)
theorem k9:i64.wrap 9=9:=w64 (by omega)
theorem us:IntKind.u64.signed=false:=rfl
noncomputable section
def numS:SV->Option Int
 | .c c=>numC c
 | _=>none
def numA(j:Nat):SV->Option Int
 | .a l=>(l[j]?).bind numC
 | _=>none
def finI(k:IntKind)(φ:Int->Prop):SV->Hp->V:=finV (X:=Int) 0 0 (fun s _=>numS s) (fun _ _=>[]) φ (fun r=>.c (.iv k r)) (fun _=>[])
def fIx:FuncId:=109
def fQu:FuncId:=179
def fDr:FuncId:=13
def vDr(a n:Int):V:=verF P con0 3 4 fDr [] .nil [iv a,iv n] ⟨[],0,fun _=>True⟩ (finI .i64 fun r=>r=dr a n)
structure Ly where
 W:Int
 L:Int
 C:Int
 T:Int
 D:Int
 H:Int
 sl:Int
 ep:Int
 bm:Int
 qu:Int
 tb:Int
def Ly.l(y:Ly):List SC:=[i6 y.W,i6 y.L,i6 y.C,i6 y.T,i6 y.D,i6 y.H,i6 y.sl,i6 y.ep,i6 y.bm,i6 y.qu,i6 y.tb]
end
theorem vDr_eq(a n:Int):vDr a n=
 V.br (decide (n<O 1)) (U (O 0=dr a n) (nN [(1,.eqI 0 0)] (V.ok))) (U (n≠O 0) (V.br (decide (a.tmod n<O 0)) (U (n≠O 0) (U (i64.wrap (a.tmod n+n)=dr a n) (nN [(1,.pf (i64.wrap (a.tmod n+n)=i64.wrap (a.tmod n+n)) rfl)] (V.ok)))) (U (n≠O 0) (U (a.tmod n=dr a n) (nN [(1,.pf (a.tmod n=a.tmod n) rfl)] V.ok))))):=by kernel_rfl
theorem dr_bd{a n:Int}(h:1<=n):0<=dr a n/\dr a n<n:=by
 unfold dr
 rw[if_neg (by omega)]
 exact⟨Int.emod_nonneg _ (by omega),Int.emod_lt_of_pos _ (by omega)⟩
theorem vhDr{a n:Int}(h:n<=9223372036854775807):zac (vDr a n):=by
 constructor
 rw[vDr_eq]
 by_cases hn:n<1
 ·have e:dr a n=0:=by unfold dr;rw[if_pos hn]
  rw[e]
  (with_reducible repeat' first|exact V.okI|refine V.brT ?_|refine V.brF ?_|refine V.brI ?_ ?_|refine V.anyI ?_|refine nN_h rfl ?_|refine V.needI ?_ ?_|intro _)
  all_goals (simp only[decide_eq_true_eq,decide_eq_false_iff_not,Z,z7,za,ge_iff_le,gt_iff_lt,zu,zf,zg,zb]at *)
  all_goals first|omega|rfl|trace_state
 ·have e:dr a n=a % n:=by unfold dr;rw[if_neg hn]
  have e2:=Int.emod_def a n
  have e3:=Int.emod_nonneg a (show n≠0 by omega)
  have e4:=Int.emod_lt_of_pos a (show 0<n by omega)
  have e5:a.tmod n=a % n\/(a.tmod n=a % n-n):=by
   rw[Int.tmod_eq_emod]
   split
   ·left;simp
   ·right;omega
  have e6:a.tmod n<0->i64.wrap (a.tmod n+n)=a % n:=fun hlt=>by
   rcases e5 with e5|e5
   ·omega
   ·rw[w64 (by omega)];omega
  have e7:¬a.tmod n<0->a.tmod n=a % n:=fun hlt=>by
   rcases e5 with e5|e5<;>omega
  rw[e]
  (with_reducible repeat' first|exact V.okI|refine V.brT ?_|refine V.brF ?_|refine V.brI ?_ ?_|refine V.anyI ?_|refine nN_h rfl ?_|refine V.needI ?_ ?_|intro _)
  all_goals (simp only[decide_eq_true_eq,decide_eq_false_iff_not,Z,z7,za,ge_iff_le,gt_iff_lt,zu,zf,zg,zb]at *)
  all_goals first|omega|(exact e6 (by omega))|(exact e7 (by omega))|rfl|trace_state
def okQ(y:Ly)(w l:Int):Prop:=(0<=w/\w<y.W)/\(0<=l/\l<y.L)/\(0<=y.D/\y.D<=64)/\(0<=y.qu/\y.qu<=1000)/\(0<=y.L*(2+y.D)/\y.L*(2+y.D)<=5000)/\(0<=w*(y.L*(2+y.D))/\w*(y.L*(2+y.D))<=100000)/\(0<=l*(2+y.D)/\l*(2+y.D)<=5000)
noncomputable section
def allK:List SV->Bool
 | []=>true
 | .c (.ki _ _)::l=>allK l
 | .a m::l=>m.all kiB&&allK l
 | _::_=>false
def numsA:List SV->Option (List Int)
 | []=>some []
 | .c c::l=>match numC c,numsA l with
  | some x,some xs=>some (x::xs)
  | _,_=>none
 | .a m::l=>match nums (m.map .c),numsA l with
  | some x,some xs=>some (x++xs)
  | _,_=>none
 | _=>none
def numF(f:FuncId)(k:List Int->List SV->Hp->Out (SV×Hp)):List SV->Hp->Out (SV×Hp):=fun args H=>match allK args with
 | true=>zfc P con0 noAnn 3 6 f args H
 | false=>match numsA args with
  | some l=>k l args H
  | none=>.bad 483
theorem zel{f:FuncId}{k:List Int->List SV->Hp->Out (SV×Hp)}(hk:∀l args H,(∃n,k l args H=.bad n)\/∃σ' n args0 h0 post,k l args H=useP σ' n args0 h0 post args H/\zai P f args0 h0 n post):zab P f (numF f k):=contract_or (u:=3) (m:=6) fun args H=>by
  unfold numF
  repeat' split
  all_goals first
    | exact .inr (.inr (.inl rfl))
    | exact .inl ⟨_,rfl⟩
    | (rcases hk _ args H with h|h
       . exact .inl h
       . exact .inr (.inl h))
def outR(k:IntKind)(p:Prop)(x:Int):Out (SV×Hp):=.need p (.any Int (fun r=>r=x) fun r=>.leaf (.c (.iv k r),⟨[],0,fun _=>True⟩))
def cDr:List SV->Hp->Out (SV×Hp):=numF fDr fun l=>match l with
 | [a,n]=>useP [] 0 [iv a,iv n] [] (outR .i64 (n<=9223372036854775807) (dr a n))
 | _=>fun _ _=>.bad 484
theorem cDr_ok:zab P fDr cDr:=zel fun l args H=>by
 repeat' split
 all_goals first|exact .inl ⟨_,rfl⟩|exact .inr ⟨_,_,_,_,_,rfl,zae zak.nil fun h=>vhDr h⟩
end
structure En where
 m:Mm
 now:Int
 dr:Int
 ne:Nat
 nc:Nat
 ev:Evs
noncomputable section
def envK(t:Nat)(s:St):Nat:=scK (zaw (tmK t s) 23 s.H.h)
def rdEn(t:Nat)(s:St):Option En:=match rdMm s.H.h (envM t s),zaw (envK t s) 0 s.H.h,zaw (envK t s) 1 s.H.h,zaw (tmK t s) 25 s.H.h,rdEv (envE t s) s.H.h with
 | some x,some a,some b,some (.slc _ _ _ _ m c),some ev=>match numC a,numC b with
  | some a,some b=>some ⟨x.m,a,b,m.v,c.v,ev⟩
  | _,_=>none
 | _,_,_,_,_=>none
end
noncomputable section
def conWL:Con:=conMem conW
theorem conWL_ok:zak P conWL:=conMem_ok conW_ok
end
end Go.Proofs.YtjgldffneablmaaGreat.Md
