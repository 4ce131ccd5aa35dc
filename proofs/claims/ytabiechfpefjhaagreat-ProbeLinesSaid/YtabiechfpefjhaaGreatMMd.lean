/- A part of the proof. -/
import Derived.Test.YtabiechfpefjhaaGreatML
import Derived.Test.YtabiechfpefjhaaGreatMW
import Derived.Test.YtabiechfpefjhaaGreatMNw
import Derived.Test.YtabiechfpefjhaaGreatMNwMem
set_option linter.unusedVariables false
set_option linter.unusedSimpArgs false
set_option maxRecDepth 100000
open Go.IntKind (i64 u64)
open Int renaming ofNat -> O, ofNat_eq_natCast -> zz
open Bool renaming not_eq_false' -> za, and_eq_false_iff -> zd
open Go.Proofs.YtabiechfpefjhaaGreat.Sx.V renaming need -> U
namespace Go.Proofs.YtabiechfpefjhaaGreat.Md
open Go Go.RowKit Sx Cn Dc Ck Vc
structure Mm where
 g:Nat->Int
 lk:Int
 lc:Int
 lo:Int
 ln:Int
 ct:Int
def inb(n:Nat)(a:Int):Bool:=decide (0<=a)&&decide (a<(n:Int))
def Mm.val(m:Mm)(n:Nat)(a:Int):Int:=bif inb n a then m.g a.toNat else 0
def Mm.acc(m:Mm)(n:Nat)(kd a x:Int):Mm:=bif inb n a then⟨fun e=>if e=a.toNat then x else m.g e,kd,a,m.g a.toNat,x,i64.wrap (m.ct+1)⟩ else m
def Mm.hit(m:Mm)(n:Nat)(a v:Int):Bool:=inb n a&&decide (m.val n a=v)
def casV(b:Bool)(x y:Int):Int:=bif b then y else x
@[simp] theorem Mm.eta (m:Mm):Mm.mk (fun e=>m.g e) m.lk m.lc m.lo m.ln m.ct=m:=rfl
noncomputable section
abbrev uw(n:Int):SC:=.iv .u64 n
abbrev i6(n:Int):SC:=.iv .i64 n
def mO(n cap:Nat)(lk lc lo ln ct:SC):Blk:=.own 116 6 ([.slc 1 (.k 0) (.k 0) 1 (.s n) (.s cap),lk,lc,lo,ln,ct].map some)
def hM(n cap:Nat)(m:Mm):HL:=[(0,mO n cap (i6 m.lk) (i6 m.lc) (uw m.lo) (uw m.ln) (i6 m.ct)),(1,.row 48 cap n [.ci .u64 fun _ e=>m.g e])]
def hV(n cap:Nat)(m:Mm):HL:=[(0,.view 1 (fun _=>1) [.ck [.slc 1 (.k 0) (.k 0) 1 (.s n) (.s cap)],.cu,.cu,.cu,.cu,.ck [i6 m.ct]]),(1,.view 1 (fun _=>n) [.ci .u64 fun _ e=>m.g e])]
def finMm(ret:SV)(n cap:Nat)(m:Mm):SV->Hp->V:=finV (X:=Unit) 2 2 (fun _ _=>some ()) (fun _ _=>[]) (fun _=>True) (fun _=>ret) (fun _=>hM n cap m)
def ptM:SV:=.c (.ptr 0 (.k 0) (.k 0) 0 6)
def fLd:FuncId:=173
def fSt:FuncId:=21
def fCt:FuncId:=29
section
variable (n cap:Nat) (m:Mm) (a v y:Int)
def vMLd:V:=verF P con0 3 6 fLd [] .nil [ptM,.c (i6 a)] ⟨hM n cap m,2,fun _=>True⟩ (finMm (.c (uw (m.val n a))) n cap (m.acc n 1 a (m.val n a)))
def vMSt:V:=verF P con0 3 6 fSt [] .nil [ptM,.c (i6 a),.c (uw v)] ⟨hM n cap m,2,fun _=>True⟩ (finMm (.t []) n cap (m.acc n 2 a v))
def vMCt:V:=verF P con0 3 6 fCt [] .nil [ptM] ⟨hV n cap m,2,fun _=>True⟩ (finV (X:=Unit) 2 2 (fun _ _=>some ()) (fun _ _=>[]) (fun _=>True) (fun _=>.c (i6 m.ct)) (fun _=>[]))
end
end
abbrev mm0(a0 a1:Nat)(l:LP):LP:=(1,.pf (a0=a0) rfl)::(1,.pf (a1=a1) rfl)::l
abbrev mm1(a0 a1:Nat)(k:V):V:=nN [(1,.pf (a0=a0) rfl)] (U (a1<=a1) k)
abbrev mms0(m:Mm)(n:Nat)(a:Int)(cap:Nat):V:=U True (U (O 0=m.val n a) (nN (mm0 n cap []) (U (m.lk=(m.acc n (O 1) a (m.val n a)).lk) (U (m.lc=(m.acc n (O 1) a (m.val n a)).lc) (U (m.lo=(m.acc n (O 1) a (m.val n a)).lo) (U (m.ln=(m.acc n (O 1) a (m.val n a)).ln) (U (m.ct=(m.acc n (O 1) a (m.val n a)).ct) (mm1 cap n (U (∀(e:Nat),e<n->m.g e=(m.acc n (O 1) a (m.val n a)).g e) V.ok)))))))))
abbrev mm2(a0:Int)(a1:Nat)(k:V):V:=U (O 0<=a0/\a0<(↑a1:Int)) (U (0+a0.toNat<a1) (U (0+a0.toNat<a1) k))
theorem vMLd_eq(n cap:Nat)(m:Mm)(a:Int):vMLd n cap m a=
 V.br (decide (a<O 0)) (mms0 m n a cap) (V.br (decide (a >= (↑n:Int))) (mms0 m n a cap) (mm2 a n (nN [(3,.lt2 0 1 0 1)] (U (O 0<=a/\a<(↑n:Int)) (U (0<1/\0+a.toNat<n) (U (0+a.toNat<n) (mm2 a n (U True (U (m.g (0+a.toNat)=m.val n a) (nN (mm0 n cap []) (U (O 1=(m.acc n (O 1) a (m.val n a)).lk) (U (a=(m.acc n (O 1) a (m.val n a)).lc) (U (m.g (0+a.toNat)=(m.acc n (O 1) a (m.val n a)).lo) (U ((if 0=0/\0+a.toNat=0+a.toNat then m.g (0+a.toNat) else m.g (0+a.toNat))=(m.acc n (O 1) a (m.val n a)).ln) (U (i64.wrap (m.ct+O 1)=(m.acc n (O 1) a (m.val n a)).ct) (mm1 cap n (U (∀(e:Nat),e<n->(if 0=0/\e=0+a.toNat then m.g (0+a.toNat) else m.g e)=(m.acc n (O 1) a (m.val n a)).g e) V.ok))))))))))))))))):=by kernel_rfl
abbrev mms1(n cap:Nat)(m:Mm)(a v:Int):V:=U True (nN (mm0 n cap []) (U (m.lk=(m.acc n (O 2) a v).lk) (U (m.lc=(m.acc n (O 2) a v).lc) (U (m.lo=(m.acc n (O 2) a v).lo) (U (m.ln=(m.acc n (O 2) a v).ln) (U (m.ct=(m.acc n (O 2) a v).ct) (mm1 cap n (U (∀(e:Nat),e<n->m.g e=(m.acc n (O 2) a v).g e) V.ok))))))))
theorem vMSt_eq(n cap:Nat)(m:Mm)(a v:Int):vMSt n cap m a v=
 V.br (decide (a<O 0)) (mms1 n cap m a v) (V.br (decide (a >= (↑n:Int))) (mms1 n cap m a v) (mm2 a n (nN [(4,.lt2 0 1 0 1)] (U (O 0<=a/\a<(↑n:Int)) (U (0<1/\0+a.toNat<n) (U (0+a.toNat<n) (mm2 a n (U True (nN (mm0 n cap []) (U (O 2=(m.acc n (O 2) a v).lk) (U (a=(m.acc n (O 2) a v).lc) (U (m.g (0+a.toNat)=(m.acc n (O 2) a v).lo) (U ((if 0=0/\0+a.toNat=0+a.toNat then v else m.g (0+a.toNat))=(m.acc n (O 2) a v).ln) (U (i64.wrap (m.ct+O 1)=(m.acc n (O 2) a v).ct) (mm1 cap n (U (∀(e:Nat),e<n->(if 0=0/\e=0+a.toNat then v else m.g e)=(m.acc n (O 2) a v).g e) V.ok)))))))))))))))):=by kernel_rfl
theorem vMCt_eq(n cap:Nat)(m:Mm):vMCt n cap m=
 nN [(3,.lt2 0 1 0 1)] (U True (nN [(1,.pf (m.ct=m.ct) rfl)] V.ok)):=by kernel_rfl
theorem inb_t{n:Nat}{a:Int}(h0:0<=a)(h1:a<(n:Int)):inb n a=true:=by simp[inb,h0,h1]
theorem inb_f{n:Nat}{a:Int}(h:a<0\/(n:Int)<=a):inb n a=false:=by
 unfold inb
 rcases h with h|h
 ·rw[decide_eq_false (by omega)];rfl
 ·rw[decide_eq_false (p:=a<(n:Int)) (by omega),Bool.and_false]
section
variable {n cap:Nat} {m:Mm} {a v y:Int}
theorem vhMLd:zad (vMLd n cap m a):=by
 constructor
 rw[vMLd_eq]
 (with_reducible repeat' first|exact V.okI|refine V.brT ?_|refine V.brF ?_|refine V.brI ?_ ?_|refine V.anyI ?_|refine nN_h rfl ?_|refine V.needI ?_ ?_|intro _)
 all_goals (simp only[decide_eq_true_eq,decide_eq_false_iff_not,zz,Bool.not_eq_true',za,ge_iff_le,gt_iff_lt,Bool.and_eq_true,Bool.or_eq_true,Bool.not_eq_true,zd]at *)
 all_goals first|omega|(have hb:inb n a=false:=inb_f (by omega);simp[Mm.val,Mm.acc,hb];done)|(have hb:inb n a=true:=inb_t (by omega) (by omega);simp[Mm.val,Mm.acc,hb];done)|trace_state
theorem vhMSt:zad (vMSt n cap m a v):=by
 constructor
 rw[vMSt_eq]
 (with_reducible repeat' first|exact V.okI|refine V.brT ?_|refine V.brF ?_|refine V.brI ?_ ?_|refine V.anyI ?_|refine nN_h rfl ?_|refine V.needI ?_ ?_|intro _)
 all_goals (simp only[decide_eq_true_eq,decide_eq_false_iff_not,zz,Bool.not_eq_true',za,ge_iff_le,gt_iff_lt,Bool.and_eq_true,Bool.or_eq_true,Bool.not_eq_true,zd]at *)
 all_goals first|omega|(have hb:inb n a=false:=inb_f (by omega);simp[Mm.val,Mm.acc,hb];done)|(have hb:inb n a=true:=inb_t (by omega) (by omega);simp[Mm.val,Mm.acc,hb];done)|trace_state
theorem vhMCt:zad (vMCt n cap m):=by
 constructor
 rw[vMCt_eq]
 (with_reducible repeat' first|exact V.okI|refine V.brT ?_|refine V.brF ?_|refine V.brI ?_ ?_|refine V.anyI ?_|refine nN_h rfl ?_|refine V.needI ?_ ?_|intro _)
 all_goals first|exact True.intro|rfl|trace_state
end
theorem zdz{P:Program}{f:FuncId}{args:List SV}{h0 h1:HL}{n:Nat}{post:Out (SV×Hp)}(h:zah P f args h1 n post)(hle:∀k b,find k h1=some b->∃c,find k h0=some c/\zdp c b):zah P f args h0 n post:=by
 intro φ ρ w vs K hi hv hh
 have hinv:HInv φ ρ ⟨h1,n,fun _=>True⟩ w:=by
  refine⟨hi.fr,hi.up,?_,?_,?_,?_,?_⟩
  ·intro k b hf;obtain⟨c,hc,_⟩:=hle k b hf;exact hi.lt k c hc
  ·intro k b hf;obtain⟨c,hc,hl⟩:=hle k b hf;exact Blk.sat_le hl (hi.sat k c hc)
  ·intro k b hf i hli y o hy;obtain⟨c,hc,hl⟩:=hle k b hf;exact hi.bd k c hc i (zao hl hli) y o hy
  ·intro k b hf hr i hli y o hy;obtain⟨c,hc,hl⟩:=hle k b hf;exact hi.may k c hc (zbh hl hr) i (zao hl hli) y o hy
  ·intro k b hf hr k' b' hf' hne j i hj hi' y o y' o' hy hy'
   obtain⟨c,hc,hl⟩:=hle k b hf
   obtain⟨c',hc',hl'⟩:=hle k' b' hf'
   exact hi.sep k c hc (zbh hl hr) k' c' hc' hne j i (zao hl hj) (zao hl' hi') y o y' o' hy hy'
 refine(h φ ρ w vs K hinv hv hh).mono ?_
 rintro e w' ⟨v,ρ',sv,H',a1,a2,a3,a4,a5,a6⟩
 exact⟨v,ρ',sv,H',a1,a2,a3,⟨a4.nxt,a4.D⟩,a5,a6⟩
structure MP where
 kc:Nat
 len:NV
 cap:NV
 m:Mm
noncomputable section
def colC:Col->Option SC
 | .ck [c]=>some c
 | .cc c=>some c
 | _=>none
def cellsB:Blk->List (Option SC)
 | .own _ _ cs=>cs
 | .view _ _ cols=>cols.map colC
 | _=>[]
def zfe:Blk->List Col
 | .row _ _ _ cols=>cols
 | .view _ _ cols=>cols
 | _=>[]
def colG:Col->Option (Nat->Int)
 | .ci _ g=>some fun e=>g 0 e
 | .cc c=>match numC c with
  | some v=>some fun _=>v
  | none=>none
 | .ck l=>some fun e=>zbu l e
 | _=>none
def rdMm(H:HL)(km:Nat):Option MP:=match find km H with
 | some b=>match cellsB b with
  | [some (.slc kc _ _ _ len cap),some lk,some lc,some lo,some ln,some ct]=>match numC lk,numC lc,numC lo,numC ln,numC ct with
   | some xk,some xc,some xo,some xn,some xt=>match find kc H with
    | some c=>match zfe c with
     | [col]=>match colG col with
      | some g=>some ⟨kc,len,cap,⟨fun e=>g e,xk,xc,xo,xn,xt⟩⟩
      | none=>none
     | _=>none
    | none=>none
   | _,_,_,_,_=>none
  | _=>none
 | none=>none
def mK(len cap:NV)(lk lc lo ln ct:SC):Blk:=.own 116 6 ([.slc 1 (.k 0) (.k 0) 1 len cap,lk,lc,lo,ln,ct].map some)
def hN(len cap:NV)(m:Mm):HL:=[(0,mK len cap (i6 m.lk) (i6 m.lc) (uw m.lo) (uw m.ln) (i6 m.ct)),(1,.row 48 cap.v len.v [.ci .u64 fun _ e=>m.g e])]
def hW(len cap:NV)(m:Mm):HL:=[(0,.view 1 (fun _=>1) [.ck [.slc 1 (.k 0) (.k 0) 1 len cap],.cu,.cu,.cu,.cu,.ck [i6 m.ct]]),(1,.view 1 (fun _=>len.v) [.ci .u64 fun _ e=>m.g e])]
def outI(len cap:NV)(M:Mm)(x:Int):Out (SV×Hp):=.any Mm (fun m'=>m'=M) fun m'=>.any Int (fun v=>v=x) fun v=>.leaf (.c (uw v),⟨hN len cap m',2,fun _=>True⟩)
def outU(len cap:NV)(M:Mm):Out (SV×Hp):=.any Mm (fun m'=>m'=M) fun m'=>.leaf (.t [],⟨hN len cap m',2,fun _=>True⟩)
def outV(k:IntKind)(x:Int):Out (SV×Hp):=.any Int (fun v=>v=x) fun v=>.leaf (.c (.iv k v),⟨[],2,fun _=>True⟩)
end
theorem pre_N{len cap:NV}{m:Mm}(k:Nat)(b:Blk)(hf:find k (hM len.v cap.v m)=some b):∃c,find k (hN len cap m)=some c/\zdp c b:=by
 unfold hM at hf
 unfold hN
 rw[zag]at hf ⊢
 split at hf
 ·cases hf
  exact⟨_,if_pos ‹_›,rfl,rfl,⟨rfl,rfl,rfl,rfl,rfl,rfl⟩,⟨rfl,rfl⟩,⟨rfl,rfl⟩,⟨rfl,rfl⟩,⟨rfl,rfl⟩,⟨rfl,rfl⟩,trivial⟩
 ·rename_i h
  rw[if_neg h]
  rw[zag]at hf ⊢
  split at hf
  ·cases hf
   exact⟨_,if_pos ‹_›,rfl,rfl,Nat.le_refl _,⟨rfl,fun _ _ _=>rfl⟩,trivial⟩
  ·cases hf
theorem pre_W{len cap:NV}{m:Mm}(k:Nat)(b:Blk)(hf:find k (hV len.v cap.v m)=some b):∃c,find k (hW len cap m)=some c/\zdp c b:=by
 unfold hV at hf
 unfold hW
 rw[zag]at hf ⊢
 split at hf
 ·cases hf
  exact⟨_,if_pos ‹_›,Nat.le_refl _,fun _ _=>Nat.le_refl _,⟨⟨rfl,rfl,rfl,rfl,rfl,rfl⟩,trivial⟩,trivial,trivial,trivial,trivial,⟨⟨rfl,rfl⟩,trivial⟩,trivial⟩
 ·rename_i h
  rw[if_neg h]
  rw[zag]at hf ⊢
  split at hf
  ·cases hf
   exact⟨_,if_pos ‹_›,Nat.le_refl _,fun _ _=>Nat.le_refl _,⟨rfl,fun _ _ _=>rfl⟩,trivial⟩
  ·cases hf
theorem same_N{len cap:NV}{m:Mm}:HLE (hM len.v cap.v m) (hN len cap m):=
 ⟨⟨rfl,rfl,rfl,⟨(fun _=>rfl:SCe _ _),fun _=>rfl,fun _=>rfl,fun _=>rfl,fun _=>rfl,fun _=>rfl,trivial⟩⟩,⟨rfl,rfl,rfl,rfl,ColE.refl _,trivial⟩,trivial⟩
section
variable {f:FuncId} {args:List SV} {len cap:NV} {m M:Mm}
theorem name_I{x:Int}(h:zah P f args (hM len.v cap.v m) 2 (.need True (.leaf (.c (uw x),⟨hM len.v cap.v M,2,fun _=>True⟩)))):zah P f args (hN len cap m) 2 (outI len cap M x):=
 (zdz h pre_N).same fun K hK=>⟨trivial,_,_,SVe.refl _,same_N,(hK.2 M rfl).2 x rfl⟩
theorem name_U(h:zah P f args (hM len.v cap.v m) 2 (.need True (.leaf (.t [],⟨hM len.v cap.v M,2,fun _=>True⟩)))):zah P f args (hN len cap m) 2 (outU len cap M):=
 (zdz h pre_N).same fun K hK=>⟨trivial,_,_,SVe.refl _,same_N,hK.2 M rfl⟩
theorem name_V{k:IntKind}{x:Int}(h:zah P f args (hV len.v cap.v m) 2 (.need True (.leaf (.c (.iv k x),⟨[],2,fun _=>True⟩)))):zah P f args (hW len cap m) 2 (outV k x):=
 (zdz h pre_W).mono fun K hK=>⟨trivial,hK.2 x rfl⟩
end
noncomputable section
def nums:List SV->Option (List Int)
 | []=>some []
 | .c c::l=>match numC c,nums l with
  | some x,some xs=>some (x::xs)
  | _,_=>none
 | _=>none
def nacc(k:MP->List Nat->List Int->List SV->Hp->Out (SV×Hp)):List SV->Hp->Out (SV×Hp):=fun args H=>match args with
 | .c (.ptr km _ _ _ _)::rest=>fN km fun km=>match rdMm H.h km,nums rest with
  | some x,some r=>k x [km,x.kc] r args H
  | _,_=>.bad 480
 | _=>.bad 481
def nLd:List SV->Hp->Out (SV×Hp):=nacc fun x σ r=>match r with
 | [a]=>useP σ 2 [ptM,.c (i6 a)] (hN x.len x.cap x.m) (outI x.len x.cap (x.m.acc x.len.v 1 a (x.m.val x.len.v a)) (x.m.val x.len.v a))
 | _=>fun _ _=>.bad 482
def nSt:List SV->Hp->Out (SV×Hp):=nacc fun x σ r=>match r with
 | [a,v]=>useP σ 2 [ptM,.c (i6 a),.c (uw v)] (hN x.len x.cap x.m) (outU x.len x.cap (x.m.acc x.len.v 2 a v))
 | _=>fun _ _=>.bad 482
def nCt:List SV->Hp->Out (SV×Hp):=nacc fun x σ r=>match r with
 | []=>useP σ 2 [ptM] (hW x.len x.cap x.m) (outV .i64 x.m.ct)
 | _=>fun _ _=>.bad 482
theorem nacc_ok{f:FuncId}{k:MP->List Nat->List Int->List SV->Hp->Out (SV×Hp)}(hk:∀x σ r args H,(∃n,k x σ r args H=.bad n)\/∃σ' n args0 h0 post,k x σ r args H=useP σ' n args0 h0 post args H/\zah P f args0 h0 n post):zab P f (nacc k):=zac fun args H=>by
 unfold nacc
 simp only[fN_eq]
 repeat' split
 all_goals first
  | exact .inl ⟨_,rfl⟩
  | exact hk _ _ _ _ _
theorem nLd_ok:zab P fLd nLd:=nacc_ok fun x σ r args H=>by
 repeat' split
 all_goals first|exact .inl ⟨_,rfl⟩|exact .inr ⟨_,_,_,_,_,rfl,name_I (zai zaj.nil fun _=>vhMLd)⟩
theorem nSt_ok:zab P fSt nSt:=nacc_ok fun x σ r args H=>by
 repeat' split
 all_goals first|exact .inl ⟨_,rfl⟩|exact .inr ⟨_,_,_,_,_,rfl,name_U (zai zaj.nil fun _=>vhMSt)⟩
theorem nCt_ok:zab P fCt nCt:=nacc_ok fun x σ r args H=>by
 repeat' split
 all_goals first|exact .inl ⟨_,rfl⟩|exact .inr ⟨_,_,_,_,_,rfl,name_V (zai zaj.nil fun _=>vhMCt)⟩
def conN(c:Con):Con:=Con.add fLd nLd (Con.add fSt nSt (Con.add fCt nCt (c)))
theorem conN_ok{c:Con}(h:zaj P c):zaj P (conN c):=.add nLd_ok (.add nSt_ok (.add nCt_ok (h)))
end
noncomputable section
end
noncomputable section
def zax(k f:Nat)(h:HL):Option SC:=match find k h with
 | some b=>((cellsB b)[f]?).join
 | _=>none
def scK:Option SC->Nat
 | some (.ptr k _ _ _ _)=>k
 | some (.slc k _ _ _ _ _)=>k
 | some (.ifc _ k _ _ _ _)=>k
 | _=>0
def tmK(t:Nat)(s:St):Nat:=match (s.tmps[t]?:Option (Option SV)) with
 | some (some (.c c))=>scK (some c)
 | _=>0
def envM(t:Nat)(s:St):Nat:=scK (zax (tmK t s) 22 s.H.h)
def envC(t:Nat)(s:St):Nat:=scK (zax (envM t s) 0 s.H.h)
def tmI(t:Nat)(s:St):Option Int:=match (s.tmps[t]?:Option (Option SV)) with
 | some (some (.c c))=>numC c
 | _=>none
def tmB(t:Nat)(s:St):Option Bool:=match (s.tmps[t]?:Option (Option SV)) with
 | some (some sv)=>(asB sv).map fun r=>r.2
 | _=>none
def envE(t:Nat)(s:St):Nat:=scK (zax (tmK t s) 25 s.H.h)
def rowCols(k:Nat)(h:HL):List Col:=match find k h with
 | some b=>zfe b
 | _=>[]
structure Evs where
 k:Nat->Int
 w:Nat->Int
 t:Nat->Int
 o:Nat->Int
 l:Nat->Int
def Evs.cols(v:Evs):List Col:=[.ci .i64 fun _ e=>v.k e,.ci .i64 fun _ e=>v.w e,.ci .i64 fun _ e=>v.t e,.ci .i64 fun _ e=>v.o e,.ci .i64 fun _ e=>v.l e]
def rdEv(k:Nat)(h:HL):Option Evs:=match rowCols k h with
 | [a,b,c,d,e]=>match colG a,colG b,colG c,colG d,colG e with
  | some a,some b,some c,some d,some e=>some ⟨fun i=>a i,fun i=>b i,fun i=>c i,fun i=>d i,fun i=>e i⟩
  | _,_,_,_,_=>none
 | _=>none
def noEv:List Col:=[.ci .i64 fun _ _=>0,.ci .i64 fun _ _=>0,.ci .i64 fun _ _=>0,.ci .i64 fun _ _=>0,.ci .i64 fun _ _=>0]
end
section
variable {m:Mm} {n:Nat} {kd a x:Int}
def Mm.ok(m:Mm):Prop:=∀e,0<=m.g e/\m.g e<=18446744073709551615
theorem Mm.ok_acc(hm:∀e,0<=m.g e/\m.g e<=18446744073709551615)(hx:0<=x/\x<=18446744073709551615):∀e,0<=(m.acc n kd a x).g e/\(m.acc n kd a x).g e<=18446744073709551615:=fun e=>by
 unfold Mm.acc
 cases hb:inb n a with
 | false=>exact hm e
 | true=>
  show 0<=(if e=a.toNat then x else m.g e)/\(if e=a.toNat then x else m.g e)<=18446744073709551615
  split
  ·exact hx
  ·exact hm e
theorem wrap_ok(x:Int):0<=u64.wrap x/\u64.wrap x<=18446744073709551615:=by
 have h:u64.wrap x=x % 18446744073709551616:=by unfold IntKind.wrap;rfl
 rw[h]
 omega
theorem bits_ok(op:BinOp){a b:Int}:0<=bits op .u64 a b/\bits op .u64 a b<=18446744073709551615:=by
 unfold bits
 exact wrap_ok _
theorem casV_ok{b:Bool}{p q:Int}(hp:0<=p/\p<=18446744073709551615)(hq:0<=q/\q<=18446744073709551615):0<=casV b p q/\casV b p q<=18446744073709551615:=by
 cases b
 ·exact hp
 ·exact hq
end
theorem l1:i64.wrap (1+1)=2:=w64 (by omega)
theorem l2:i64.wrap (2+1)=3:=w64 (by omega)
theorem l3:i64.wrap (3+1)=4:=w64 (by omega)
theorem k2:i64.wrap 2=2:=w64 (by omega)
theorem k3:i64.wrap 3=3:=w64 (by omega)
theorem k4:i64.wrap 4=4:=w64 (by omega)
theorem k5:i64.wrap 5=5:=w64 (by omega)
theorem k6:i64.wrap 6=6:=w64 (by omega)
theorem k7:i64.wrap 7=7:=w64 (by omega)
theorem k8:i64.wrap 8=8:=w64 (by omega)
theorem k9:i64.wrap 9=9:=w64 (by omega)
theorem us:IntKind.u64.signed=false:=rfl
noncomputable section
def numS:SV->Option Int
 | .c c=>numC c
 | _=>none
def numA(j:Nat):SV->Option Int
 | .a l=>(l[j]?).bind numC
 | _=>none
def finI(k:IntKind)(φ:Int->Prop):SV->Hp->V:=finV (X:=Int) 0 0 (fun s _=>numS s) (fun _ _=>[]) φ (fun r=>.c (.iv k r)) (fun _=>[])
def fAt:FuncId:=176
def fIx:FuncId:=106
def fDr:FuncId:=14
def vDr(a n:Int):V:=verF P con0 3 4 fDr [] .nil [iv a,iv n] ⟨[],0,fun _=>True⟩ (finI .i64 fun r=>r=dr a n)
structure Ly where
 W:Int
 L:Int
 C:Int
 T:Int
 D:Int
 H:Int
 sl:Int
 ep:Int
 bm:Int
 qu:Int
 tb:Int
def Ly.l(y:Ly):List SC:=[i6 y.W,i6 y.L,i6 y.C,i6 y.T,i6 y.D,i6 y.H,i6 y.sl,i6 y.ep,i6 y.bm,i6 y.qu,i6 y.tb]
end
theorem vDr_eq(a n:Int):vDr a n=
 V.br (decide (n<O 1)) (U (O 0=dr a n) (nN [(1,.eqI 0 0)] (V.ok))) (U (n≠O 0) (V.br (decide (a.tmod n<O 0)) (U (n≠O 0) (U (i64.wrap (a.tmod n+n)=dr a n) (nN [(1,.pf (i64.wrap (a.tmod n+n)=i64.wrap (a.tmod n+n)) rfl)] (V.ok)))) (U (n≠O 0) (U (a.tmod n=dr a n) (nN [(1,.pf (a.tmod n=a.tmod n) rfl)] V.ok))))):=by kernel_rfl
theorem dr_bd{a n:Int}(h:1<=n):0<=dr a n/\dr a n<n:=by
 unfold dr
 rw[if_neg (by omega)]
 exact⟨Int.emod_nonneg _ (by omega),Int.emod_lt_of_pos _ (by omega)⟩
theorem vhDr{a n:Int}(h:n<=9223372036854775807):zad (vDr a n):=by
 constructor
 rw[vDr_eq]
 by_cases hn:n<1
 ·have e:dr a n=0:=by unfold dr;rw[if_pos hn]
  rw[e]
  (with_reducible repeat' first|exact V.okI|refine V.brT ?_|refine V.brF ?_|refine V.brI ?_ ?_|refine V.anyI ?_|refine nN_h rfl ?_|refine V.needI ?_ ?_|intro _)
  all_goals (simp only[decide_eq_true_eq,decide_eq_false_iff_not,zz,Bool.not_eq_true',za,ge_iff_le,gt_iff_lt,Bool.and_eq_true,Bool.or_eq_true,Bool.not_eq_true,zd]at *)
  all_goals first|omega|rfl|trace_state
 ·have e:dr a n=a % n:=by unfold dr;rw[if_neg hn]
  have e2:=Int.emod_def a n
  have e3:=Int.emod_nonneg a (show n≠0 by omega)
  have e4:=Int.emod_lt_of_pos a (show 0<n by omega)
  have e5:a.tmod n=a % n\/(a.tmod n=a % n-n):=by
   rw[Int.tmod_eq_emod]
   split
   ·left;simp
   ·right;omega
  have e6:a.tmod n<0->i64.wrap (a.tmod n+n)=a % n:=fun hlt=>by
   rcases e5 with e5|e5
   ·omega
   ·rw[w64 (by omega)];omega
  have e7:¬a.tmod n<0->a.tmod n=a % n:=fun hlt=>by
   rcases e5 with e5|e5<;>omega
  rw[e]
  (with_reducible repeat' first|exact V.okI|refine V.brT ?_|refine V.brF ?_|refine V.brI ?_ ?_|refine V.anyI ?_|refine nN_h rfl ?_|refine V.needI ?_ ?_|intro _)
  all_goals (simp only[decide_eq_true_eq,decide_eq_false_iff_not,zz,Bool.not_eq_true',za,ge_iff_le,gt_iff_lt,Bool.and_eq_true,Bool.or_eq_true,Bool.not_eq_true,zd]at *)
  all_goals first|omega|(exact e6 (by omega))|(exact e7 (by omega))|rfl|trace_state
def okQ(y:Ly)(w l:Int):Prop:=(0<=w/\w<y.W)/\(0<=l/\l<y.L)/\(0<=y.D/\y.D<=64)/\(0<=y.qu/\y.qu<=1000)/\(0<=y.L*(2+y.D)/\y.L*(2+y.D)<=5000)/\(0<=w*(y.L*(2+y.D))/\w*(y.L*(2+y.D))<=100000)/\(0<=l*(2+y.D)/\l*(2+y.D)<=5000)
noncomputable section
def allK:List SV->Bool
 | []=>true
 | .c (.ki _ _)::l=>allK l
 | .a m::l=>m.all kiB&&allK l
 | _::_=>false
def numsA:List SV->Option (List Int)
 | []=>some []
 | .c c::l=>match numC c,numsA l with
  | some x,some xs=>some (x::xs)
  | _,_=>none
 | .a m::l=>match nums (m.map .c),numsA l with
  | some x,some xs=>some (x++xs)
  | _,_=>none
 | _=>none
def numF(f:FuncId)(k:List Int->List SV->Hp->Out (SV×Hp)):List SV->Hp->Out (SV×Hp):=fun args H=>match allK args with
 | true=>ze4 P con0 noAnn 3 6 f args H
 | false=>match numsA args with
  | some l=>k l args H
  | none=>.bad 483
theorem zfv{f:FuncId}{k:List Int->List SV->Hp->Out (SV×Hp)}(hk:∀l args H,(∃n,k l args H=.bad n)\/∃σ' n args0 h0 post,k l args H=useP σ' n args0 h0 post args H/\zah P f args0 h0 n post):zab P f (numF f k):=contract_or (u:=3) (m:=6) fun args H=>by
  unfold numF
  repeat' split
  all_goals first
    | exact .inr (.inr (.inl rfl))
    | exact .inl ⟨_,rfl⟩
    | (rcases hk _ args H with h|h
       . exact .inl h
       . exact .inr (.inl h))
def outR(k:IntKind)(p:Prop)(x:Int):Out (SV×Hp):=.need p (.any Int (fun r=>r=x) fun r=>.leaf (.c (.iv k r),⟨[],0,fun _=>True⟩))
def cDr:List SV->Hp->Out (SV×Hp):=numF fDr fun l=>match l with
 | [a,n]=>useP [] 0 [iv a,iv n] [] (outR .i64 (n<=9223372036854775807) (dr a n))
 | _=>fun _ _=>.bad 484
theorem cDr_ok:zab P fDr cDr:=zfv fun l args H=>by
 repeat' split
 all_goals first|exact .inl ⟨_,rfl⟩|exact .inr ⟨_,_,_,_,_,rfl,zae zaj.nil fun h=>vhDr h⟩
end
structure En where
 m:Mm
 now:Int
 dr:Int
 ne:Nat
 nc:Nat
 ev:Evs
noncomputable section
def envK(t:Nat)(s:St):Nat:=scK (zax (tmK t s) 23 s.H.h)
def rdEn(t:Nat)(s:St):Option En:=match rdMm s.H.h (envM t s),zax (envK t s) 0 s.H.h,zax (envK t s) 1 s.H.h,zax (tmK t s) 25 s.H.h,rdEv (envE t s) s.H.h with
 | some x,some a,some b,some (.slc _ _ _ _ m c),some ev=>match numC a,numC b with
  | some a,some b=>some ⟨x.m,a,b,m.v,c.v,ev⟩
  | _,_=>none
 | _,_,_,_,_=>none
end
end Go.Proofs.YtabiechfpefjhaaGreat.Md
