/- A part of the proof. -/
import Derived.Test.YtabiechfpefjhaaGreatML
import Derived.Test.YtabiechfpefjhaaGreatMMd
import Derived.Test.YtabiechfpefjhaaGreatMW
import Derived.Test.YtabiechfpefjhaaGreatMV
import Derived.Test.YtabiechfpefjhaaGreatMMd
import Derived.Test.YtabiechfpefjhaaGreatMMdNewB
set_option maxHeartbeats 64000000
set_option linter.unusedVariables false
set_option linter.unusedSimpArgs false
set_option maxRecDepth 100000
open Go.IntKind (i64 u64)
open Int renaming ofNat -> O, ofNat_eq_natCast -> zz
open Nat renaming le_refl -> Z
open Bool renaming and_eq_true -> zx, not_eq_true' -> z7, not_eq_false' -> za, or_eq_true -> zf, not_eq_true -> zg, and_eq_false_iff -> zd
open Go.Proofs.YtabiechfpefjhaaGreat.Sx.V renaming need -> U, br -> zj, ok -> zw, any -> ze, needI -> z9, okI -> zk, brT -> zn, brF -> zm, brI -> zl, anyI -> zi
namespace Go.Proofs.YtabiechfpefjhaaGreat.Vc
open Go Go.RowKit Sx Cn Dc Ck
theorem wnc3{c:Cf}(h:okY c):max 0 (min (ncI c) 131072)=ncI c:=by have:=nc_bd h;omega
noncomputable section
def renvB(k0 k1 km kr:Nat)(c:Cf)(n cap rn rc:Nat):Blk:=.own 54 21 ((cfL k0 k1 c++[slK km 1 n cap,.iv .i64 0,.iv .i64 0,.iv .u64 0,.iv .u64 0,.iv .i64 0,.iv .i64 0,.iv .i64 0,slK kr 7 rn rc,.nils]).map some)
def r19(s:St):Nat:=cellKey (tkey 3 s) 19 s.H.h
def fNewR(n:Int)(s:St):Option (LA (Int×Nat)):=match find (tkey 3 s) s.H.h with
 | some (.own t size cs)=>some ⟨[(tkey 3,true),(r19,false)],fun x=>[.own t size (cs.set 19 (some (slK (r19 s) 7 x.1.toNat x.2))),freshB x.1.toNat x.2],[4],fun x=>[iv x.1],
  fun s=>match intT 4 s,capOf (r19 s) s.H.h with|some i,some c=>some (i,c)|_,_=>none,fun x=>0<=x.1/\x.1<=n/\x.1.toNat<=x.2,fun x=>(n-x.1).toNat⟩
 | _=>none
def psNewR(c:Cf):PS:=.leaf Nat 6 (fun s H=>capOf (keyF 19 (tupK s) H.h) H.h) (fun s H=>[tupK s,keyF 11 (tupK s) H.h,keyF 19 (tupK s) H.h]) (fun x=>c.T.toNat<=x) (fun _=>.c (.ptr 3 (.k 0) (.k 0) 0 21))
 (fun x=>[(3,renvB 0 1 4 5 c (ncN c) (ncN c) c.T.toNat x),(4,zeroB (ncN c)),(5,freshB c.T.toNat x)])
def verNewR(c:Cf):V:=verF P con0 3 6 17 [] (.loop _ [.nilCell (tkey 3) 19 109 7 fun _=>freshC] (fNewR c.T) .nil .nil) [argC c] ⟨hC c,3,fun _=>True⟩ ((psNewR c).fin 3)
end
abbrev nr1(k:V):V:=U (0<1/\0<1) (U (0<1/\0<1) k)
abbrev nr2(a0:Cf)(k:V):V:=U ((max (O 0) (min (i64.wrap (i64.wrap (i64.wrap (i64.wrap (i64.wrap (O 4+a0.H)+a0.C)+i64.wrap (O 2*a0.W))+i64.wrap (i64.wrap (a0.W*a0.L)*i64.wrap (O 2+a0.D)))+i64.wrap (O 5*a0.T))) (O 131072))).toNat=(max (O 0) (min (i64.wrap (i64.wrap (i64.wrap (i64.wrap (i64.wrap (O 4+a0.H)+a0.C)+i64.wrap (O 2*a0.W))+i64.wrap (i64.wrap (a0.W*a0.L)*i64.wrap (O 2+a0.D)))+i64.wrap (O 5*a0.T))) (O 131072))).toNat) (U ((max (O 0) (min (i64.wrap (i64.wrap (i64.wrap (i64.wrap (i64.wrap (O 4+a0.H)+a0.C)+i64.wrap (O 2*a0.W))+i64.wrap (i64.wrap (a0.W*a0.L)*i64.wrap (O 2+a0.D)))+i64.wrap (O 5*a0.T))) (O 131072))).toNat=(max (O 0) (min (i64.wrap (i64.wrap (i64.wrap (i64.wrap (i64.wrap (O 4+a0.H)+a0.C)+i64.wrap (O 2*a0.W))+i64.wrap (i64.wrap (a0.W*a0.L)*i64.wrap (O 2+a0.D)))+i64.wrap (O 5*a0.T))) (O 131072))).toNat) k)
abbrev nr8(a0:Int×Nat)(k:V):V:=U (∀(e:Nat),e<(i64.wrap (a0.fst+O 1)).toNat->(if 0=0/\e=a0.fst.toNat then O 0 else O 0)=O 0) (U (∀(e:Nat),e<(i64.wrap (a0.fst+O 1)).toNat->(if 0=0/\e=a0.fst.toNat then Int.negSucc 0 else -O 1)=-O 1) k)
abbrev nr18(k:V):V:=U (O 0=O 0) (U (O 0=O 0) k)
abbrev nr21(k:V):V:=U (∀(e:Nat),e<0->O 0=O 0) (U (∀(e:Nat),e<0->-O 1=-O 1) k)
abbrev nr26(a0:Cf)(k:V):V:=U (∀(e:Nat),e<a0.T.toNat->O 0=O 0) (U (∀(e:Nat),e<a0.T.toNat->-O 1=-O 1) k)
abbrev nr32(k:V):V:=nr1 (nr1 k)
abbrev nr42(k:V):V:=nr32 (nr32 k)
abbrev nr44(a0:Cf)(k:V):V:=U (a0.nP=a0.nP) (U (a0.rc=a0.rc) k)
abbrev nr45(a0:Cf)(k:V):V:=U (a0.nU=a0.nU) (U (a0.cu=a0.cu) k)
theorem verNewR_eq(c:Cf):verNewR c=
 nr42 (nr42 (nr42 (nr42 (nr42 (U (0<1/\0<1) (U (O 0<=max (O 0) (min (i64.wrap (i64.wrap (i64.wrap (i64.wrap (i64.wrap (O 4+c.H)+c.C)+i64.wrap (O 2*c.W))+i64.wrap (i64.wrap (c.W*c.L)*i64.wrap (O 2+c.D)))+i64.wrap (O 5*c.T))) (O 131072))/\max (O 0) (min (i64.wrap (i64.wrap (i64.wrap (i64.wrap (i64.wrap (O 4+c.H)+c.C)+i64.wrap (O 2*c.W))+i64.wrap (i64.wrap (c.W*c.L)*i64.wrap (O 2+c.D)))+i64.wrap (O 5*c.T))) (O 131072))<=max (O 0) (min (i64.wrap (i64.wrap (i64.wrap (i64.wrap (i64.wrap (O 4+c.H)+c.C)+i64.wrap (O 2*c.W))+i64.wrap (i64.wrap (c.W*c.L)*i64.wrap (O 2+c.D)))+i64.wrap (O 5*c.T))) (O 131072))/\(↑8:Int)*max (O 0) (min (i64.wrap (i64.wrap (i64.wrap (i64.wrap (i64.wrap (O 4+c.H)+c.C)+i64.wrap (O 2*c.W))+i64.wrap (i64.wrap (c.W*c.L)*i64.wrap (O 2+c.D)))+i64.wrap (O 5*c.T))) (O 131072))<=O 281474976710656/\max (O 0) (min (i64.wrap (i64.wrap (i64.wrap (i64.wrap (i64.wrap (O 4+c.H)+c.C)+i64.wrap (O 2*c.W))+i64.wrap (i64.wrap (c.W*c.L)*i64.wrap (O 2+c.D)))+i64.wrap (O 5*c.T))) (O 131072))<=O 9223372036854775807) (U (O 0<=O 0/\O 0<=c.T/\0<=0) (U (O 0=O 0) (U (c.W=c.W) (U (c.L=c.L) (U (c.C=c.C) (U (c.T=c.T) (U (c.D=c.D) (U (c.H=c.H) (U (c.B=c.B) (U (c.A=c.A) (U (c.P=c.P) (nr44 c (nr45 c (nr2 c (U (0=0) (U (0=0) (U (0=0) (U (0<=0) (nr21 (U (∀(e:Nat),e<0->O 0=O 0) (nr21 (U (∀(e:Nat),e<0->false=false) (ze (Int×Nat) (fun (x:Int×Nat)=>O 0<=x.fst/\x.fst<=c.T/\x.fst.toNat<=x.snd) fun y0=>nr1 (zj (decide (y0.fst<c.T)) (nr42 (nr1 (U (y0.fst.toNat<=y0.fst.toNat/\y0.snd=y0.snd) (U (y0.fst.toNat+1<=9223372036854775807/\(y0.fst.toNat+1)*72<=140737488355328) (ze Nat (fun (x_1:Nat)=>y0.fst.toNat+1<=x_1) fun y1=>nr1 (U (O 0<=i64.wrap (y0.fst+O 1)/\i64.wrap (y0.fst+O 1)<=c.T/\(i64.wrap (y0.fst+O 1)).toNat<=y1) (U ((c.T-i64.wrap (y0.fst+O 1)).toNat<(c.T-y0.fst).toNat) (U (i64.wrap (y0.fst+O 1)=i64.wrap (y0.fst+O 1)) (U (c.W=c.W) (U (c.L=c.L) (U (c.C=c.C) (U (c.T=c.T) (U (c.D=c.D) (U (c.H=c.H) (U (c.B=c.B) (U (c.A=c.A) (U (c.P=c.P) (nr44 c (nr45 c (nr2 c (U (y0.fst.toNat+1=(i64.wrap (y0.fst+O 1)).toNat) (U (y1=y1) (U (y1=y1) (U ((i64.wrap (y0.fst+O 1)).toNat<=y0.fst.toNat+1) (nr8 y0 (U (∀(e:Nat),e<(i64.wrap (y0.fst+O 1)).toNat->(if 0=0/\e=y0.fst.toNat then O 0 else O 0)=O 0) (nr8 y0 (U (∀(e:Nat),e<(i64.wrap (y0.fst+O 1)).toNat->(if 0=0/\e=y0.fst.toNat then false else false)=false) zw)))))))))))))))))))))))))))) (U (c.T.toNat<=y0.snd) (U (c.W=c.W) (U (c.L=c.L) (U (c.C=c.C) (U (c.T=c.T) (U (c.D=c.D) (U (c.H=c.H) (U (c.B=c.B) (U (c.A=c.A) (U (c.P=c.P) (nr44 c (nr45 c (U ((max (O 0) (min (i64.wrap (i64.wrap (i64.wrap (i64.wrap (i64.wrap (O 4+c.H)+c.C)+i64.wrap (O 2*c.W))+i64.wrap (i64.wrap (c.W*c.L)*i64.wrap (O 2+c.D)))+i64.wrap (O 5*c.T))) (O 131072))).toNat=ncN c) (U ((max (O 0) (min (i64.wrap (i64.wrap (i64.wrap (i64.wrap (i64.wrap (O 4+c.H)+c.C)+i64.wrap (O 2*c.W))+i64.wrap (i64.wrap (c.W*c.L)*i64.wrap (O 2+c.D)))+i64.wrap (O 5*c.T))) (O 131072))).toNat=ncN c) (nr18 (nr18 (nr18 (U (O 0=O 0) (U (y0.fst.toNat=c.T.toNat) (U (y0.snd=y0.snd) (U ((max (O 0) (min (i64.wrap (i64.wrap (i64.wrap (i64.wrap (i64.wrap (O 4+c.H)+c.C)+i64.wrap (O 2*c.W))+i64.wrap (i64.wrap (c.W*c.L)*i64.wrap (O 2+c.D)))+i64.wrap (O 5*c.T))) (O 131072))).toNat=ncN c) (U (ncN c<=(max (O 0) (min (i64.wrap (i64.wrap (i64.wrap (i64.wrap (i64.wrap (O 4+c.H)+c.C)+i64.wrap (O 2*c.W))+i64.wrap (i64.wrap (c.W*c.L)*i64.wrap (O 2+c.D)))+i64.wrap (O 5*c.T))) (O 131072))).toNat) (U (∀(e:Nat),e<ncN c->O 0=O 0) (U (y0.snd=y0.snd) (U (c.T.toNat<=y0.fst.toNat) (nr26 c (U (∀(e:Nat),e<c.T.toNat->O 0=O 0) (nr26 c (U (∀(e:Nat),e<c.T.toNat->false=false) zw))))))))))))))))))))))))))))))))))))))))))))))))))))))))))):=by kernel_rfl
theorem vhNewR{c:Cf}(h:okY c):zad (verNewR c):=by
  constructor
  rw[verNewR_eq]
  have W:=wy h
  have hn:=nc_bd h
  have e1:=wnc1 h
  have e2:=wnc2 h
  have e3:=wnc3 h
  have hT:=h.2.2.2.1
  have e4:(ncI c).toNat=ncN c:=rfl
  simp only[V.holds,zz,decide_eq_true_eq,decide_eq_false_iff_not,z7,za,bne_iff_ne,bne_eq_false_iff_eq,beq_iff_eq,beq_eq_false_iff_ne,ne_eq,true_and,and_true,forall_const,true_implies,implies_true,Nat.zero_add,Nat.sub_zero,Nat.lt_add_one,Nat.zero_lt_one,Int.natCast_zero,Int.natCast_one,Int.cast_ofNat_Int,gt_iff_lt,ge_iff_le,and_self,eq_self,Z,if_true,Int.toNat_zero,ite_self,W.w3,W.w4,W.w1,W.w2,W.w5,W.w6,W.w7,W.w8,W.w10,W.w11,e1,e2,e3,e4]
  repeat' first
    | exact True.intro
    | with_reducible apply And.intro
    | (refine Prod.forall.2 fun xi F=>?_
       intro hx
       simp only at hx ⊢
       obtain⟨i,rfl⟩:=Int.eq_ofNat_of_zero_le hx.1
       simp only[Int.toNat_natCast]at hx ⊢
       obtain⟨hx0,hx1,hx2⟩:=hx)
    | intro _
  all_goals try simp(disch:=omega) only[wnat,Int.toNat_natCast]
  all_goals first
    | omega
    | rfl
    | exact⟨_,Z _⟩
    | (split<;>rfl)
noncomputable section
def conNewR:List SV->Hp->Out (SV×Hp):=zex fun c=>.need (okY c) (psNewR c).out
theorem conNewR_ok:zab P 17 conNewR:=zcu fun c=>zcb zaj.nil fun h=>vhNewR h
end
end Go.Proofs.YtabiechfpefjhaaGreat.Vc
namespace Go.Proofs.YtabiechfpefjhaaGreat.En
open Go Go.RowKit Sx Cn Dc Ck Vc Md
structure Rv where
 c:Cf
 len:Nat
 cap:Nat
 m:Mm
 now:Int
 dr:Int
 rn:Nat
 rc:Nat
 ne:Nat
 nc:Nat
noncomputable section
def tRE:TypeId:=54
def Rv.W(r:Rv)(m:Mm):Rv:=⟨r.c,r.len,r.cap,m,r.now,r.dr,r.rn,r.rc,r.ne,r.nc⟩
def Rv.cs(r:Rv)(k0 k1 km kr ke:Nat):List SC:=cfL k0 k1 r.c++[slK km 1 r.len r.cap,i6 r.m.lk,i6 r.m.lc,uw r.m.lo,uw r.m.ln,i6 r.m.ct,i6 r.now,i6 r.dr,slK kr 7 r.rn r.rc,slK ke 5 r.ne r.nc]
def Rv.b(r:Rv)(k0 k1 km kr ke:Nat):Blk:=.own tRE 21 ((r.cs k0 k1 km kr ke).map some)
def dum(n:Nat):Blk:=.view 0 (fun _=>0) (List.replicate n .cu)
def wRow(cap len:Nat)(m:Mm):Blk:=.row 48 cap len [.ci .u64 fun _ e=>m.g e]
def Rv.h(r:Rv):HL:=[(0,r.b 2 3 1 4 5),(1,wRow r.cap r.len r.m),(2,dum 1),(3,dum 3),(4,dum 7),(5,dum 5)]
def Rv.h2(r:Rv):HL:=[(0,r.b 2 3 1 4 5),(1,wRow r.cap r.len r.m)]
def fRA:FuncId:=20
def raM(kd:Nat)(m:Mm)(n:Nat)(a v w:Int):Mm:=match kd with
 | 1=>m.acc n 1 a (m.val n a)
 | 2=>m.acc n 2 a v
 | 3=>m.acc n 3 a (casV (m.hit n a v) (m.val n a) w)
 | 4=>m.acc n 4 a (bits .or .u64 (m.val n a) v)
 | 5=>m.acc n 5 a (bits .and .u64 (m.val n a) v)
 | _=>m.acc n 6 a (u64.wrap (m.val n a+v))
def raB(kd:Nat)(m:Mm)(n:Nat)(a v:Int):Bool:=match kd with
 | 3=>m.hit n a v
 | _=>inb n a
def zb9(kd:Nat)(a v w:Int):List SV:=[.c (.ptr 0 (.k 0) (.k 0) 11 21),.c (.ki .i64 kd),.c (i6 a),.c (uw v),.c (uw w)]
def vRA(kd:Nat)(r:Rv)(a v w:Int):V:=verF P con0 3 6 fRA [] .nil (zb9 kd a v w) ⟨r.h,6,fun _=>True⟩
 (finV (X:=Unit) 6 6 (fun _ _=>some ()) (fun _ _=>[]) (fun _=>True) (fun _=>.t [.c (uw (r.m.val r.len a)),.c (.bv (raB kd r.m r.len a v))]) (fun _=>(r.W (raM kd r.m r.len a v w)).h2))
def fSw:FuncId:=44
def fS5:FuncId:=47
def yesF(n:Nat):SV->Hp->V:=finV (X:=Unit) n n (fun _ _=>some ()) (fun _ _=>[]) (fun _=>True) (fun _=>.c (.kb true)) (fun _=>[])
def wV(n:Nat)(g:Nat->Int):Blk:=.view 1 (fun _=>n) [.ci .u64 fun _ e=>g e]
def cI(t n:Nat):LA Int:=cntL t (fun x=>0<=x/\x<=n) n
def vSw(n c d:Nat)(g:Nat->Int):V:=verF P con0 3 3 fSw [] (.loop Int [] (fun _=>some (cI 5 n)) .nil .nil) [.c (slK 0 1 n c),.c (slK 1 1 n d)] ⟨[(0,wV n g),(1,wV n g)],2,fun _=>True⟩ (yesF 2)
def eV(n:Nat)(v:Evs):Blk:=.view 1 (fun _=>n) v.cols
def vS5(n c d:Nat)(v:Evs):V:=verF P con0 3 3 fS5 [] (.loop Int [] (fun _=>some (cI 5 n)) .nil .nil) [.c (slK 0 5 n c),.c (slK 1 5 n d)] ⟨[(0,eV n v),(1,eV n v)],2,fun _=>True⟩ (yesF 2)
def fIn:FuncId:=105
def onI(i n:Nat)(q:Nat):Nat:=if q=i then n else 0
def slI(k i n cap:Nat):SC:=.slc k (.s i) (.k 0) 1 (.s n) (.s cap)
def kV(i n:Nat)(G:Nat->Nat->Int):Blk:=.view (i+1) (fun q=>onI i n q) [.ci .i64 fun q e=>G q e]
def vIn(i n c d:Nat)(G:Nat->Nat->Int):V:=verF P con0 3 3 fIn [] (.loop Int [] (fun _=>some (cI 5 n)) .nil .nil) [.c (slI 0 i n c),.c (slI 1 i n d)] ⟨[(0,kV i n G),(1,kV i n G)],2,fun _=>True⟩ (yesF 2)
end
abbrev nr9(a0:Rv)(l:LP):LP:=qE a0.now::qE a0.dr::qE a0.rn::qE a0.rc::qE a0.ne::qE a0.nc::qE a0.cap::qL a0.len::l
abbrev nr11(a0:Cf)(a1:Rv)(l:LP):LP:=qE a0.W::qE a0.L::qE a0.C::qE a0.T::qE a0.D::qE a0.H::qE a0.B::qE a0.A::qE a0.P::qE a0.nP::qE a0.rc::qE a0.nU::qE a0.cu::qE a1.len::qE a1.cap::l
abbrev nr6(a0:Mm)(a1:Rv)(a2:Int)(k:V):V:=U True (U (O 0=a0.val a1.len a2) k)
abbrev nrs0(r:Rv)(a v w:Int):V:=nr6 r.m r a (U (false=raB 1 r.m r.len a v) (nN (nr11 r.c r []) (U (r.m.lk=(raM 1 r.m r.len a v w).lk) (U (r.m.lc=(raM 1 r.m r.len a v w).lc) (U (r.m.lo=(raM 1 r.m r.len a v w).lo) (U (r.m.ln=(raM 1 r.m r.len a v w).ln) (U (r.m.ct=(raM 1 r.m r.len a v w).ct) (nN (nr9 r []) (U (∀(e:Nat),e<r.len->r.m.g e=(raM 1 r.m r.len a v w).g e) zw)))))))))
abbrev nr12(a0:Mm)(a1:Int)(a2:Rv)(k:V):V:=U True (U (a0.g (0+a1.toNat)=a0.val a2.len a1) k)
abbrev nr4(a0:Int)(a1:Rv)(k:V):V:=U (O 0<=a0/\a0<(↑a1.len:Int)) (U (0+a0.toNat<a1.len) (U (0+a0.toNat<a1.len) k))
theorem vRA1_eq(r:Rv)(a v w:Int):V.pr .z (vRA 1 r a v w)=
 zj (decide (a >= O 0)) (zj (!decide (a<(↑r.len:Int))) (nrs0 r a v w) (nr4 a r (nr4 a r (nr12 r.m a r (U (true=raB 1 r.m r.len a v) (nN (nr11 r.c r []) (U (O 1=(raM 1 r.m r.len a v w).lk) (U (a=(raM 1 r.m r.len a v w).lc) (U (r.m.g (0+a.toNat)=(raM 1 r.m r.len a v w).lo) (U (r.m.g (0+a.toNat)=(raM 1 r.m r.len a v w).ln) (U (i64.wrap (r.m.ct+O 1)=(raM 1 r.m r.len a v w).ct) (nN (nr9 r []) (U (∀(e:Nat),e<r.len->(if 0=0/\e=0+a.toNat then r.m.g (0+a.toNat) else r.m.g e)=(raM 1 r.m r.len a v w).g e) zw))))))))))))) (nrs0 r a v w):=by kernel_rfl
abbrev nrs1(r:Rv)(a v w:Int):V:=nr6 r.m r a (U (false=raB 2 r.m r.len a v) (nN (nr11 r.c r []) (U (r.m.lk=(raM 2 r.m r.len a v w).lk) (U (r.m.lc=(raM 2 r.m r.len a v w).lc) (U (r.m.lo=(raM 2 r.m r.len a v w).lo) (U (r.m.ln=(raM 2 r.m r.len a v w).ln) (U (r.m.ct=(raM 2 r.m r.len a v w).ct) (nN (nr9 r []) (U (∀(e:Nat),e<r.len->r.m.g e=(raM 2 r.m r.len a v w).g e) zw)))))))))
theorem vRA2_eq(r:Rv)(a v w:Int):V.pr .z (vRA 2 r a v w)=
 zj (decide (a >= O 0)) (zj (!decide (a<(↑r.len:Int))) (nrs1 r a v w) (nr4 a r (nr4 a r (nr12 r.m a r (U (true=raB 2 r.m r.len a v) (nN (nr11 r.c r []) (U (O 2=(raM 2 r.m r.len a v w).lk) (U (a=(raM 2 r.m r.len a v w).lc) (U (r.m.g (0+a.toNat)=(raM 2 r.m r.len a v w).lo) (U (v=(raM 2 r.m r.len a v w).ln) (U (i64.wrap (r.m.ct+O 1)=(raM 2 r.m r.len a v w).ct) (nN (nr9 r []) (U (∀(e:Nat),e<r.len->(if 0=0/\e=0+a.toNat then v else r.m.g e)=(raM 2 r.m r.len a v w).g e) zw))))))))))))) (nrs1 r a v w):=by kernel_rfl
abbrev nrs2(r:Rv)(a v w:Int):V:=nr6 r.m r a (U (false=raB 3 r.m r.len a v) (nN (nr11 r.c r []) (U (r.m.lk=(raM 3 r.m r.len a v w).lk) (U (r.m.lc=(raM 3 r.m r.len a v w).lc) (U (r.m.lo=(raM 3 r.m r.len a v w).lo) (U (r.m.ln=(raM 3 r.m r.len a v w).ln) (U (r.m.ct=(raM 3 r.m r.len a v w).ct) (nN (nr9 r []) (U (∀(e:Nat),e<r.len->r.m.g e=(raM 3 r.m r.len a v w).g e) zw)))))))))
theorem vRA3_eq(r:Rv)(a v w:Int):V.pr .z (vRA 3 r a v w)=
 zj (decide (a >= O 0)) (zj (!decide (a<(↑r.len:Int))) (nrs2 r a v w) (nr4 a r (zj (r.m.g (0+a.toNat) == v) (nr4 a r (nr12 r.m a r (U ((r.m.g (0+a.toNat) == v)=raB 3 r.m r.len a v) (nN (nr11 r.c r []) (U (O 3=(raM 3 r.m r.len a v w).lk) (U (a=(raM 3 r.m r.len a v w).lc) (U (r.m.g (0+a.toNat)=(raM 3 r.m r.len a v w).lo) (U (w=(raM 3 r.m r.len a v w).ln) (U (i64.wrap (r.m.ct+O 1)=(raM 3 r.m r.len a v w).ct) (nN (nr9 r []) (U (∀(e:Nat),e<r.len->(if 0=0/\e=0+a.toNat then w else r.m.g e)=(raM 3 r.m r.len a v w).g e) zw))))))))))) (nr4 a r (nr12 r.m a r (U ((r.m.g (0+a.toNat) == v)=raB 3 r.m r.len a v) (nN (nr11 r.c r []) (U (O 3=(raM 3 r.m r.len a v w).lk) (U (a=(raM 3 r.m r.len a v w).lc) (U (r.m.g (0+a.toNat)=(raM 3 r.m r.len a v w).lo) (U (r.m.g (0+a.toNat)=(raM 3 r.m r.len a v w).ln) (U (i64.wrap (r.m.ct+O 1)=(raM 3 r.m r.len a v w).ct) (nN (nr9 r []) (U (∀(e:Nat),e<r.len->(if 0=0/\e=0+a.toNat then r.m.g (0+a.toNat) else r.m.g e)=(raM 3 r.m r.len a v w).g e) zw)))))))))))))) (nrs2 r a v w):=by kernel_rfl
abbrev nrs3(r:Rv)(a v w:Int):V:=nr6 r.m r a (U (false=raB 4 r.m r.len a v) (nN (nr11 r.c r []) (U (r.m.lk=(raM 4 r.m r.len a v w).lk) (U (r.m.lc=(raM 4 r.m r.len a v w).lc) (U (r.m.lo=(raM 4 r.m r.len a v w).lo) (U (r.m.ln=(raM 4 r.m r.len a v w).ln) (U (r.m.ct=(raM 4 r.m r.len a v w).ct) (nN (nr9 r []) (U (∀(e:Nat),e<r.len->r.m.g e=(raM 4 r.m r.len a v w).g e) zw)))))))))
theorem vRA4_eq(r:Rv)(a v w:Int):V.pr .z (vRA 4 r a v w)=
 zj (decide (a >= O 0)) (zj (!decide (a<(↑r.len:Int))) (nrs3 r a v w) (nr4 a r (nr4 a r (nr12 r.m a r (U (true=raB 4 r.m r.len a v) (nN (nr11 r.c r []) (U (O 4=(raM 4 r.m r.len a v w).lk) (U (a=(raM 4 r.m r.len a v w).lc) (U (r.m.g (0+a.toNat)=(raM 4 r.m r.len a v w).lo) (U (bits BinOp.or IntKind.u64 (r.m.g (0+a.toNat)) v=(raM 4 r.m r.len a v w).ln) (U (i64.wrap (r.m.ct+O 1)=(raM 4 r.m r.len a v w).ct) (nN (nr9 r []) (U (∀(e:Nat),e<r.len->(if 0=0/\e=0+a.toNat then bits BinOp.or IntKind.u64 (r.m.g (0+a.toNat)) v else r.m.g e)=(raM 4 r.m r.len a v w).g e) zw))))))))))))) (nrs3 r a v w):=by kernel_rfl
abbrev nrs4(r:Rv)(a v w:Int):V:=nr6 r.m r a (U (false=raB 5 r.m r.len a v) (nN (nr11 r.c r []) (U (r.m.lk=(raM 5 r.m r.len a v w).lk) (U (r.m.lc=(raM 5 r.m r.len a v w).lc) (U (r.m.lo=(raM 5 r.m r.len a v w).lo) (U (r.m.ln=(raM 5 r.m r.len a v w).ln) (U (r.m.ct=(raM 5 r.m r.len a v w).ct) (nN (nr9 r []) (U (∀(e:Nat),e<r.len->r.m.g e=(raM 5 r.m r.len a v w).g e) zw)))))))))
theorem vRA5_eq(r:Rv)(a v w:Int):V.pr .z (vRA 5 r a v w)=
 zj (decide (a >= O 0)) (zj (!decide (a<(↑r.len:Int))) (nrs4 r a v w) (nr4 a r (nr4 a r (nr12 r.m a r (U (true=raB 5 r.m r.len a v) (nN (nr11 r.c r []) (U (O 5=(raM 5 r.m r.len a v w).lk) (U (a=(raM 5 r.m r.len a v w).lc) (U (r.m.g (0+a.toNat)=(raM 5 r.m r.len a v w).lo) (U (bits BinOp.and IntKind.u64 (r.m.g (0+a.toNat)) v=(raM 5 r.m r.len a v w).ln) (U (i64.wrap (r.m.ct+O 1)=(raM 5 r.m r.len a v w).ct) (nN (nr9 r []) (U (∀(e:Nat),e<r.len->(if 0=0/\e=0+a.toNat then bits BinOp.and IntKind.u64 (r.m.g (0+a.toNat)) v else r.m.g e)=(raM 5 r.m r.len a v w).g e) zw))))))))))))) (nrs4 r a v w):=by kernel_rfl
abbrev nrs5(r:Rv)(a v w:Int):V:=nr6 r.m r a (U (false=raB 6 r.m r.len a v) (nN (nr11 r.c r []) (U (r.m.lk=(raM 6 r.m r.len a v w).lk) (U (r.m.lc=(raM 6 r.m r.len a v w).lc) (U (r.m.lo=(raM 6 r.m r.len a v w).lo) (U (r.m.ln=(raM 6 r.m r.len a v w).ln) (U (r.m.ct=(raM 6 r.m r.len a v w).ct) (nN (nr9 r []) (U (∀(e:Nat),e<r.len->r.m.g e=(raM 6 r.m r.len a v w).g e) zw)))))))))
theorem vRA6_eq(r:Rv)(a v w:Int):V.pr .z (vRA 6 r a v w)=
 zj (decide (a >= O 0)) (zj (!decide (a<(↑r.len:Int))) (nrs5 r a v w) (nr4 a r (nr4 a r (nr12 r.m a r (U (true=raB 6 r.m r.len a v) (nN (nr11 r.c r []) (U (O 6=(raM 6 r.m r.len a v w).lk) (U (a=(raM 6 r.m r.len a v w).lc) (U (r.m.g (0+a.toNat)=(raM 6 r.m r.len a v w).lo) (U (u64.wrap (r.m.g (0+a.toNat)+v)=(raM 6 r.m r.len a v w).ln) (U (i64.wrap (r.m.ct+O 1)=(raM 6 r.m r.len a v w).ct) (nN (nr9 r []) (U (∀(e:Nat),e<r.len->(if 0=0/\e=0+a.toNat then u64.wrap (r.m.g (0+a.toNat)+v) else r.m.g e)=(raM 6 r.m r.len a v w).g e) zw))))))))))))) (nrs5 r a v w):=by kernel_rfl
abbrev nr13(a0:Nat)(k:V):V:=U (((↑a0:Int) != (↑a0:Int))=false) (U (O 0<=O 0/\O 0<=(↑a0:Int)) k)
abbrev nr20(a0:Nat)(k:Int->V):V:=nN [(1,.eqI 0 0)] (ze Int (fun (x:Int)=>O 0<=x/\x<=(↑a0:Int)) fun v0=>k v0)
abbrev nr5(a0:Int)(a1:Nat)(k:V):V:=U (0<1/\0+a0.toNat<a1) (U (0<1/\0+a0.toNat<a1) k)
abbrev nr22(a0:Int)(a1:Nat)(k:V):V:=U (O 0<=a0/\a0<(↑a1:Int)) (nr5 a0 a1 k)
abbrev nr41(a0:Int)(a1:Nat)(k:V):V:=U (O 0<=i64.wrap (a0+O 1)/\i64.wrap (a0+O 1)<=(↑a1:Int)) (U (a1-(i64.wrap (a0+O 1)).toNat<a1-a0.toNat) (nN [qE (i64.wrap (a0+O 1))] k))
theorem vSw_eq(n c d:Nat)(g:Nat->Int):V.pr (.f (.b (.f .z) .z)) (vSw n c d g)=
 nr13 n (nr20 n fun y0=>zj (decide (y0<(↑n:Int))) (nr22 y0 n (nr22 y0 n (U ((g (0+y0.toNat) != g (0+y0.toNat))=false) (nr41 y0 n zw)))) (U True zw)):=by kernel_rfl
theorem vS5_eq(n c d:Nat)(v:Evs):V.pr (.f (.b (.f .z) .z)) (vS5 n c d v)=
 nr13 n (nr20 n fun y0=>zj (decide (y0<(↑n:Int))) (nr22 y0 n (nr5 y0 n (nr5 y0 n (nr22 y0 n (nr5 y0 n (nr5 y0 n (U ((!(v.k (0+y0.toNat) == v.k (0+y0.toNat)&&(v.w (0+y0.toNat) == v.w (0+y0.toNat)&&(v.t (0+y0.toNat) == v.t (0+y0.toNat)&&(v.o (0+y0.toNat) == v.o (0+y0.toNat)&&(v.l (0+y0.toNat) == v.l (0+y0.toNat)&&true))))))=false) (nr41 y0 n zw)))))))) (U True zw)):=by kernel_rfl
theorem vIn_eq(i n c d:Nat)(G:Nat->Nat->Int):V.pr (.f (.b (.f .z) .z)) (vIn i n c d G)=
 nr13 n (nr20 n fun y0=>zj (decide (y0<(↑n:Int))) (U (O 0<=y0/\y0<(↑n:Int)) (U (i<i+1/\0+y0.toNat<onI i n i) (U (i<i+1/\0+y0.toNat<onI i n i) (U (O 0<=y0/\y0<(↑n:Int)) (U (i<i+1/\0+y0.toNat<onI i n i) (U (i<i+1/\0+y0.toNat<onI i n i) (U ((G i (0+y0.toNat) != G i (0+y0.toNat))=false) (nr41 y0 n zw)))))))) (U True zw)):=by kernel_rfl
section
variable {r:Rv} {a v w:Int}
theorem vhRA1:zad (vRA 1 r a v w):=by
 refine zad.pr (vRA1_eq ..) ?_
 (with_reducible repeat' first|exact zk|refine zn ?_|refine zm ?_|refine zl ?_ ?_|refine zi ?_|refine nN_h rfl ?_|refine z9 ?_ ?_|intro _)
 all_goals (simp only[decide_eq_true_eq,decide_eq_false_iff_not,zz,z7,za,ge_iff_le,gt_iff_lt,zx,zf,zg,zd]at *)
 all_goals first|omega|(have hb:inb r.len a=false:=inb_f (by omega);simp[Mm.val,Mm.acc,raM,raB,hb];done)|(have hb:inb r.len a=true:=inb_t (by omega) (by omega);simp[Mm.val,Mm.acc,raM,raB,hb];done)|trace_state
theorem vhRA2:zad (vRA 2 r a v w):=by
 refine zad.pr (vRA2_eq ..) ?_
 (with_reducible repeat' first|exact zk|refine zn ?_|refine zm ?_|refine zl ?_ ?_|refine zi ?_|refine nN_h rfl ?_|refine z9 ?_ ?_|intro _)
 all_goals (simp only[decide_eq_true_eq,decide_eq_false_iff_not,zz,z7,za,ge_iff_le,gt_iff_lt,zx,zf,zg,zd]at *)
 all_goals first|omega|(have hb:inb r.len a=false:=inb_f (by omega);simp[Mm.val,Mm.acc,raM,raB,hb];done)|(have hb:inb r.len a=true:=inb_t (by omega) (by omega);simp[Mm.val,Mm.acc,raM,raB,hb];done)|trace_state
theorem vhRA3:zad (vRA 3 r a v w):=by
 refine zad.pr (vRA3_eq ..) ?_
 (with_reducible repeat' first|exact zk|refine zn ?_|refine zm ?_|refine zl ?_ ?_|refine zi ?_|refine nN_h rfl ?_|refine z9 ?_ ?_|intro _)
 all_goals (simp only[decide_eq_true_eq,decide_eq_false_iff_not,zz,z7,za,ge_iff_le,gt_iff_lt,zx,zf,zg,zd]at *)
 all_goals first|omega|(have hb:inb r.len a=false:=inb_f (by omega);simp[Mm.val,Mm.acc,Mm.hit,casV,raM,raB,hb];done)|(have hb:inb r.len a=true:=inb_t (by omega) (by omega);simp_all [Mm.val,Mm.acc,Mm.hit,casV,raM,raB,hb];done)|trace_state
theorem vhRA4:zad (vRA 4 r a v w):=by
 refine zad.pr (vRA4_eq ..) ?_
 (with_reducible repeat' first|exact zk|refine zn ?_|refine zm ?_|refine zl ?_ ?_|refine zi ?_|refine nN_h rfl ?_|refine z9 ?_ ?_|intro _)
 all_goals (simp only[decide_eq_true_eq,decide_eq_false_iff_not,zz,z7,za,ge_iff_le,gt_iff_lt,zx,zf,zg,zd]at *)
 all_goals first|omega|(have hb:inb r.len a=false:=inb_f (by omega);simp[Mm.val,Mm.acc,raM,raB,hb];done)|(have hb:inb r.len a=true:=inb_t (by omega) (by omega);simp[Mm.val,Mm.acc,raM,raB,hb];done)|trace_state
theorem vhRA5:zad (vRA 5 r a v w):=by
 refine zad.pr (vRA5_eq ..) ?_
 (with_reducible repeat' first|exact zk|refine zn ?_|refine zm ?_|refine zl ?_ ?_|refine zi ?_|refine nN_h rfl ?_|refine z9 ?_ ?_|intro _)
 all_goals (simp only[decide_eq_true_eq,decide_eq_false_iff_not,zz,z7,za,ge_iff_le,gt_iff_lt,zx,zf,zg,zd]at *)
 all_goals first|omega|(have hb:inb r.len a=false:=inb_f (by omega);simp[Mm.val,Mm.acc,raM,raB,hb];done)|(have hb:inb r.len a=true:=inb_t (by omega) (by omega);simp[Mm.val,Mm.acc,raM,raB,hb];done)|trace_state
theorem vhRA6:zad (vRA 6 r a v w):=by
 refine zad.pr (vRA6_eq ..) ?_
 (with_reducible repeat' first|exact zk|refine zn ?_|refine zm ?_|refine zl ?_ ?_|refine zi ?_|refine nN_h rfl ?_|refine z9 ?_ ?_|intro _)
 all_goals (simp only[decide_eq_true_eq,decide_eq_false_iff_not,zz,z7,za,ge_iff_le,gt_iff_lt,zx,zf,zg,zd]at *)
 all_goals first|omega|(have hb:inb r.len a=false:=inb_f (by omega);simp[Mm.val,Mm.acc,raM,raB,hb];done)|(have hb:inb r.len a=true:=inb_t (by omega) (by omega);simp[Mm.val,Mm.acc,raM,raB,hb];done)|trace_state
end
theorem cI_0{n:Nat}:(0:Int)<=0/\(0:Int)<=n:=⟨Int.le_refl _,Int.natCast_nonneg _⟩
theorem cI_s{n:Nat}{x:Int}(hn:n<=1000000)(h:0<=x/\x<=n)(hx:x<n):0<=i64.wrap (x+1)/\i64.wrap (x+1)<=n:=by rw[w64 (by omega)];omega
theorem cI_m{n:Nat}{x:Int}(hn:n<=1000000)(h:0<=x/\x<=n)(hx:x<n):n-(i64.wrap (x+1)).toNat<n-x.toNat:=by rw[w64 (by omega)];omega
theorem vhSw{n c d:Nat}{g:Nat->Int}(hn:n<=1000000):zad (vSw n c d g):=by
 refine zad.pr (vSw_eq ..) ?_
 (with_reducible repeat' first|exact zk|refine zn ?_|refine zm ?_|refine zl ?_ ?_|refine zi ?_|refine nN_h rfl ?_|refine z9 ?_ ?_|intro _)
 all_goals try (simp only[decide_eq_true_eq,decide_eq_false_iff_not,zz,z7,za,ge_iff_le,gt_iff_lt,zx,zf,zg,zd]at *)
 all_goals first|omega|exact cI_0|exact cI_s hn ‹_› ‹_›|exact cI_m hn ‹_› ‹_›|rfl|(simp;done)|trace_state
theorem vhS5{n c d:Nat}{v:Evs}(hn:n<=1000000):zad (vS5 n c d v):=by
 refine zad.pr (vS5_eq ..) ?_
 (with_reducible repeat' first|exact zk|refine zn ?_|refine zm ?_|refine zl ?_ ?_|refine zi ?_|refine nN_h rfl ?_|refine z9 ?_ ?_|intro _)
 all_goals try (simp only[decide_eq_true_eq,decide_eq_false_iff_not,zz,z7,za,ge_iff_le,gt_iff_lt,zx,zf,zg,zd]at *)
 all_goals first|omega|exact cI_0|exact cI_s hn ‹_› ‹_›|exact cI_m hn ‹_› ‹_›|rfl|(simp;done)|trace_state
theorem vhIn{i n c d:Nat}{G:Nat->Nat->Int}(hn:n<=1000000):zad (vIn i n c d G):=by
 refine zad.pr (vIn_eq ..) ?_
 (with_reducible repeat' first|exact zk|refine zn ?_|refine zm ?_|refine zl ?_ ?_|refine zi ?_|refine nN_h rfl ?_|refine z9 ?_ ?_|intro _)
 all_goals try (simp only[decide_eq_true_eq,decide_eq_false_iff_not,zz,z7,za,ge_iff_le,gt_iff_lt,zx,zf,zg,zd]at *)
 all_goals first|omega|exact cI_0|exact cI_s hn ‹_› ‹_›|exact cI_m hn ‹_› ‹_›|rfl|(simp;done)|(refine⟨by omega,?_⟩;unfold onI;rw[if_pos rfl];omega)|trace_state
noncomputable section
def numsC:List SC->Option (List Int)
 | []=>some []
 | c::l=>match numC c,numsC l with
  | some x,some xs=>some (x::xs)
  | _,_=>none
def rdRv(k:Nat)(h:HL):Option (Rv×List Nat):=match find k h with
 | some b=>match cellsB b with
  | [some x0,some x1,some x2,some x3,some x4,some x5,some x6,some x7,some x8,some (.slc kP _ _ _ nP rP),some (.slc kU _ _ _ nU cU),some (.slc kc _ _ _ n cap),some y0,some y1,some y2,some y3,some y4,some y5,some y6,some (.slc kr _ _ _ rn rc),some (.slc ke _ _ _ ne nc)]=>
   match numsC [x0,x1,x2,x3,x4,x5,x6,x7,x8,y0,y1,y2,y3,y4,y5,y6]with
   | some [W,L,C,T,D,H,B,A,Q,lk,lc,lo,ln,ct,now,dr]=>match (find kc h).map zfe with
    | some [col]=>match colG col with
     | some g=>some (⟨⟨W,L,C,T,D,H,B,A,Q,nP.v,rP.v,nU.v,cU.v,fun _=>0,fun _=>0,fun _ _=>0,fun _ _=>0,fun _ _=>0,fun _=>0,fun _=>0,fun _=>0⟩,n.v,cap.v,⟨fun e=>g e,lk,lc,lo,ln,ct⟩,now,dr,rn.v,rc.v,ne.v,nc.v⟩,[k,kc,kP,kU,kr,ke])
     | none=>none
    | _=>none
   | _=>none
  | _=>none
 | none=>none
def zfc(r:Rv)(a:Int)(M:Mm)(b:Bool):Out (SV×Hp):=.any Mm (fun m'=>m'=M) fun m'=>.leaf (.t [.c (uw (r.m.val r.len a)),.c (.bv b)],⟨(r.W m').h2,6,fun _=>True⟩)
theorem zfs{kd:Nat}{r:Rv}{a v w:Int}(h:zad (vRA kd r a v w)):zah P fRA (zb9 kd a v w) r.h 6 (zfc r a (raM kd r.m r.len a v w) (raB kd r.m r.len a v)):=
 (zai (pre:=True) zaj.nil fun _=>h).mono fun K hK=>⟨trivial,hK.2 _ rfl⟩
theorem nRA1{r:Rv}{a v w:Int}:zah P fRA (zb9 1 a v w) r.h 6 (zfc r a (r.m.acc r.len 1 a (r.m.val r.len a)) (inb r.len a)):=zfs vhRA1
theorem nRA2{r:Rv}{a v w:Int}:zah P fRA (zb9 2 a v w) r.h 6 (zfc r a (r.m.acc r.len 2 a v) (inb r.len a)):=zfs vhRA2
theorem nRA3{r:Rv}{a v w:Int}:zah P fRA (zb9 3 a v w) r.h 6 (zfc r a (r.m.acc r.len 3 a (casV (r.m.hit r.len a v) (r.m.val r.len a) w)) (r.m.hit r.len a v)):=zfs vhRA3
theorem nRA4{r:Rv}{a v w:Int}:zah P fRA (zb9 4 a v w) r.h 6 (zfc r a (r.m.acc r.len 4 a (bits .or .u64 (r.m.val r.len a) v)) (inb r.len a)):=zfs vhRA4
theorem nRA5{r:Rv}{a v w:Int}:zah P fRA (zb9 5 a v w) r.h 6 (zfc r a (r.m.acc r.len 5 a (bits .and .u64 (r.m.val r.len a) v)) (inb r.len a)):=zfs vhRA5
theorem nRA6{r:Rv}{a v w:Int}:zah P fRA (zb9 6 a v w) r.h 6 (zfc r a (r.m.acc r.len 6 a (u64.wrap (r.m.val r.len a+v))) (inb r.len a)):=zfs vhRA6
def cRA:List SV->Hp->Out (SV×Hp):=fun args H=>match args with
 | [.c (.ptr k _ _ f _),.c (.ki _ kd),.c ca,.c cv,.c cw]=>fN k fun k=>match rdRv k H.h,numsC [ca,cv,cw]with
  | some (r,σ),some [a,v,w]=>match kd.toNat with
   | 1=>useP σ 6 (zb9 1 a v w) r.h (zfc r a (r.m.acc r.len 1 a (r.m.val r.len a)) (inb r.len a)) args H
   | 2=>useP σ 6 (zb9 2 a v w) r.h (zfc r a (r.m.acc r.len 2 a v) (inb r.len a)) args H
   | 3=>useP σ 6 (zb9 3 a v w) r.h (zfc r a (r.m.acc r.len 3 a (casV (r.m.hit r.len a v) (r.m.val r.len a) w)) (r.m.hit r.len a v)) args H
   | 4=>useP σ 6 (zb9 4 a v w) r.h (zfc r a (r.m.acc r.len 4 a (bits .or .u64 (r.m.val r.len a) v)) (inb r.len a)) args H
   | 5=>useP σ 6 (zb9 5 a v w) r.h (zfc r a (r.m.acc r.len 5 a (bits .and .u64 (r.m.val r.len a) v)) (inb r.len a)) args H
   | 6=>useP σ 6 (zb9 6 a v w) r.h (zfc r a (r.m.acc r.len 6 a (u64.wrap (r.m.val r.len a+v))) (inb r.len a)) args H
   | _=>.bad 482
  | _,_=>.bad 480
 | _=>.bad 481
theorem cRA_ok:zab P fRA cRA:=zac fun args H=>by
 unfold cRA
 simp only[fN_eq]
 repeat' split
 all_goals first
  | exact .inl ⟨_,rfl⟩
  | with_reducible exact .inr ⟨_,_,_,_,_,rfl,nRA1⟩
  | with_reducible exact .inr ⟨_,_,_,_,_,rfl,nRA2⟩
  | with_reducible exact .inr ⟨_,_,_,_,_,rfl,nRA3⟩
  | with_reducible exact .inr ⟨_,_,_,_,_,rfl,nRA4⟩
  | with_reducible exact .inr ⟨_,_,_,_,_,rfl,nRA5⟩
  | with_reducible exact .inr ⟨_,_,_,_,_,rfl,nRA6⟩
def yesO(n:Nat)(p:Prop):Out (SV×Hp):=.need p (.leaf (.c (.kb true),⟨[],n,fun _=>True⟩))
def rowW(k:Nat)(h:HL):Option (Nat->Int):=match (find k h).map zfe with
 | some [col]=>colG col
 | _=>none
def cSw:List SV->Hp->Out (SV×Hp):=fun args H=>match args with
 | [.c (.slc k _ _ _ n cap),.c (.slc k2 _ _ _ n2 cap2)]=>fN k fun k=>fN k2 fun k2=>match rowW k H.h with
  | some g=>useP [k,k2] 2 [.c (slK 0 1 n.v cap.v),.c (slK 1 1 n.v cap2.v)] [(0,wV n.v g),(1,wV n.v g)] (yesO 2 (n.v<=1000000)) args H
  | none=>.bad 480
 | _=>.bad 481
theorem cSw_ok:zab P fSw cSw:=zac fun args H=>by
 unfold cSw
 simp only[fN_eq]
 repeat' split
 all_goals first|exact .inl ⟨_,rfl⟩|exact .inr ⟨_,_,_,_,_,rfl,zai zaj.nil fun h=>vhSw h⟩
def cS5:List SV->Hp->Out (SV×Hp):=fun args H=>match args with
 | [.c (.slc k _ _ _ n cap),.c (.slc k2 _ _ _ n2 cap2)]=>fN k fun k=>fN k2 fun k2=>match rdEv k H.h with
  | some v=>useP [k,k2] 2 [.c (slK 0 5 n.v cap.v),.c (slK 1 5 n.v cap2.v)] [(0,eV n.v v),(1,eV n.v v)] (yesO 2 (n.v<=1000000)) args H
  | none=>.bad 480
 | _=>.bad 481
theorem cS5_ok:zab P fS5 cS5:=zac fun args H=>by
 unfold cS5
 simp only[fN_eq]
 repeat' split
 all_goals first|exact .inl ⟨_,rfl⟩|exact .inr ⟨_,_,_,_,_,rfl,zai zaj.nil fun h=>vhS5 h⟩
def famK(k:Nat)(h:HL):Option (Nat->Nat->Int):=match find k h with
 | some (.fam _ _ _ _ [.ci _ G])=>some fun i e=>G i e
 | some (.view _ _ [.ci _ G])=>some fun i e=>G i e
 | _=>none
def cIn:List SV->Hp->Out (SV×Hp):=fun args H=>match args with
 | [.c (.slc k i _ _ n cap),.c (.slc k2 i2 _ _ n2 cap2)]=>fN k fun k=>fN k2 fun k2=>match famK k H.h with
  | some G=>useP [k,k2] 2 [.c (slI 0 i.v n.v cap.v),.c (slI 1 i.v n.v cap2.v)] [(0,kV i.v n.v G),(1,kV i.v n.v G)] (yesO 2 (n.v<=1000000)) args H
  | none=>.bad 480
 | _=>.bad 481
theorem cIn_ok:zab P fIn cIn:=zac fun args H=>by
 unfold cIn
 simp only[fN_eq]
 repeat' split
 all_goals first|exact .inl ⟨_,rfl⟩|exact .inr ⟨_,_,_,_,_,rfl,zai zaj.nil fun h=>vhIn h⟩
end
structure Rk where
 n:Nat
 p:Nat->Int
 pa:Nat->Int
 pc:Nat->Int
 lf:Nat->Int
 wt:Nat->Int
 kl:Nat->Nat
 kd:Nat->Nat->Int
 st:Nat->Bool
def okRk(x:Rk):Prop:=x.n<=1000000/\∀e,x.kl e<=1000000
noncomputable section
def Rk.cols(x:Rk)(kf:Nat)(kc:Nat->Nat):List Col:=[.ci .i64 fun _ e=>x.p e,.ci .i64 fun _ e=>x.pa e,.ci .i64 fun _ e=>x.pc e,.ci .i64 fun _ e=>x.lf e,.ci .i64 fun _ e=>x.wt e,.cs kf 1 (fun _ e=>e) (fun _ e=>x.kl e) (fun _ e=>kc e),.cb fun _ e=>x.st e]
def Rk.row(x:Rk)(kf:Nat)(kc:Nat->Nat)(cap:Nat):Blk:=.row 109 cap x.n (x.cols kf kc)
def upto(n:Nat)(f:Nat->Nat)(i:Nat):Nat:=if i<n then f i else 0
def Rk.fam(x:Rk)(n:Nat)(kc:Nat->Nat):Blk:=.fam true 3 (fun i=>kc i) (fun i=>upto n x.kl i) [.ci .i64 fun i e=>x.kd i e]
def Rk.rowN(x:Rk)(n:Nat)(kf:Nat)(kc:Nat->Nat)(cap:Nat):Blk:=.row 109 cap n (x.cols kf kc)
def Rk.rowV(x:Rk)(kf:Nat)(kc:Nat->Nat):Blk:=.view 1 (fun _=>x.n) (x.cols kf kc)
def Rk.famV(x:Rk):Blk:=.view x.n (fun i=>x.kl i) [.ci .i64 fun i e=>x.kd i e]
def fSr:FuncId:=64
def conSr:Con:=Con.add fIn cIn con0
def vSr(x:Rk)(c d:Nat)(kc kd:Nat->Nat):V:=verF P conSr 3 4 fSr [] (.loop Int [] (fun _=>some (cI 5 x.n)) .nil .nil) [.c (slK 0 7 x.n c),.c (slK 1 7 x.n d)] ⟨[(0,x.rowV 2 kc),(1,x.rowV 3 kd),(2,x.famV),(3,x.famV)],4,fun _=>True⟩ (yesF 4)
def fCl:FuncId:=63
def vCl(n cap:Nat)(g:Nat->Int):V:=verF P con0 3 3 fCl [(1000000,.nilTmpO 2 48 1 [.ci .u64 fun _ e=>g e])] .nil [.c (slK 0 1 n cap)] ⟨[(0,.view 1 (fun _=>n) [.ci .u64 fun _ e=>g e])],1,fun _=>True⟩
 (finV (X:=Nat) 1 2 (fun s H=>match s with|.c (.slc _ _ _ _ _ c)=>some c.v|_=>none) (fun s _=>[match s with|.c x=>Sx.keyOf x|_=>0]) (fun c=>n<=c) (fun c=>.c (slK 1 1 n c)) (fun c=>[(1,.row 48 c n [.ci .u64 fun _ e=>g e])]))
def fCp:FuncId:=24
def kfR(s:St):Nat:=match rowCols (tmK 3 s) s.H.h with
 | [_,_,_,_,_,.cs f _ _ _ _,_]=>f
 | _=>0
def capsK(k:Nat)(h:HL):Option (Nat->Nat):=match find k h with
 | some (.fam _ _ cp _ _)=>some fun i=>cp i
 | _=>none
def capK(k:Nat)(h:HL):Option Nat:=match find k h with
 | some (.row _ c _ _)=>some c
 | _=>none
def laCp(x:Rk)(s:St):Option (LA (Int×Nat×(Nat->Nat))):=fN (tmK 3 s) fun k3=>fN (kfR s) fun kf=>some ⟨[(tmK 3,false),(kfR,false)],
 fun q=>[x.rowN q.1.toNat kf q.2.2 q.2.1,x.fam q.1.toNat q.2.2],[4,3],fun q=>[.c (i6 q.1),.c (slK k3 7 q.1.toNat q.2.1)],
 fun s=>match tmI 4 s,capK (tmK 3 s) s.H.h,capsK (kfR s) s.H.h with|some i,some c,some f=>some (i,c,f)|_,_,_=>none,
 fun q=>0<=q.1/\q.1<=x.n/\q.1.toNat<=q.2.1/\∀e,e<q.1.toNat->x.kl e<=q.2.2 e,fun q=>x.n-q.1.toNat⟩
def vCp(x:Rk)(c:Nat)(kc:Nat->Nat):V:=verF P con0 3 4 fCp [(4,.join (tmK 3) 5)] (.loop (Int×Nat×(Nat->Nat)) [.newFam 3 [.ci .i64 fun i e=>x.kd i e],.nilTmp 3 109 7 (x.cols 2 fun _=>0)] (laCp x) .nil .nil) [.c (slK 0 7 x.n c)] ⟨[(0,x.rowV 1 kc),(1,x.famV)],2,fun _=>True⟩
 (finV (X:=Nat×(Nat->Nat)) 2 4 (fun s H=>match s with
  | .c (.slc k _ _ _ _ c)=>fN k fun k=>(capsK (match rowCols k H.h with|[_,_,_,_,_,.cs f _ _ _ _,_]=>f|_=>0) H.h).map fun f=>(c.v,f)
  | _=>none) (fun s H=>match s with
  | .c (.slc k _ _ _ _ _)=>[match rowCols k H.h with|[_,_,_,_,_,.cs f _ _ _ _,_]=>f|_=>0,k]
  | _=>[]) (fun q=>x.n<=q.1/\∀e,e<x.n->x.kl e<=q.2 e) (fun q=>.c (slK 3 7 x.n q.1)) (fun q=>[(2,x.fam x.n q.2),(3,x.row 2 q.2 q.1)]))
end
abbrev nr3(a0:Int)(a1:Rk)(k:V):V:=U (0<1/\0+a0.toNat<a1.n) (U (0<1/\0+a0.toNat<a1.n) k)
abbrev nr17(a0:Int)(a1:Rk)(k:V):V:=U (∀(i:Nat),i<0+a0.toNat+1->onI (0+a0.toNat) (a1.kl (0+a0.toNat)) i<=a1.kl i) (nN [(1,.pf (∀(i e:Nat),i<0+a0.toNat+1/\e<onI (0+a0.toNat) (a1.kl (0+a0.toNat)) i->a1.kd i e=a1.kd i e) (by intros;rfl))] k)
theorem vSr_eq(x:Rk)(c d:Nat)(kc kd:Nat->Nat):V.pr (.f (.b (.f (.f (.f (.f (.f (.f .z)))))) .z)) (vSr x c d kc kd)=
 U (((↑x.n:Int) != (↑x.n:Int))=false) (U (O 0<=O 0/\O 0<=(↑x.n:Int)) (nN [(1,.eqI 0 0)] (ze Int (fun (x_1:Int)=>O 0<=x_1/\x_1<=(↑x.n:Int)) fun y0=>zj (decide (y0<(↑x.n:Int))) (U (O 0<=y0/\y0<(↑x.n:Int)) (nr3 y0 x (nr3 y0 x (nr3 y0 x (nr3 y0 x (U (O 0<=y0/\y0<(↑x.n:Int)) (nr3 y0 x (nr3 y0 x (nr3 y0 x (nr3 y0 x (U ((x.p (0+y0.toNat) != x.p (0+y0.toNat))=false) (U ((x.pa (0+y0.toNat) != x.pa (0+y0.toNat))=false) (U ((x.pc (0+y0.toNat) != x.pc (0+y0.toNat))=false) (U ((x.lf (0+y0.toNat) != x.lf (0+y0.toNat))=false) (U ((x.wt (0+y0.toNat) != x.wt (0+y0.toNat))=false) (U ((!x.st (0+y0.toNat) == x.st (0+y0.toNat))=false) (nN [qE (0+y0.toNat),qE (x.kl (0+y0.toNat)),qE (kc (0+y0.toNat)),qE (0+y0.toNat),qE (x.kl (0+y0.toNat)),qE (kd (0+y0.toNat))] (U (0+y0.toNat+1<=x.n) (nr17 y0 x (U (0+y0.toNat+1<=x.n) (nr17 y0 x (U (x.kl (0+y0.toNat)<=1000000) (U (O 0<=i64.wrap (y0+O 1)/\i64.wrap (y0+O 1)<=(↑x.n:Int)) (U (x.n-(i64.wrap (y0+O 1)).toNat<x.n-y0.toNat) (nN [qE (i64.wrap (y0+O 1))] zw))))))))))))))))))))))))) (U True zw)))):=by kernel_rfl
theorem vCl_eq(n cap:Nat)(g:Nat->Int):V.pr .z (vCl n cap g)=
 nA (fun (b:Bool)=>b=true->¬(0<1/\0<n)) fun y0=>zj y0 (U (n<=0) (U (0=n) (nN [(2,.eq 0 0)] (U (n<=0) (nN [qF n g] zw))))) (U (0+n<=n) (nN [(1,.eq 0 0)] (U (0+n<=9223372036854775807/\(0+n)*8<=140737488355328) (ze Nat (fun (x:Nat)=>0+n<=x) fun y1=>U (n<=y1) (U (0+n=n) (nN [qE y1,qE y1] (U (n<=0+n) (U (∀(e:Nat),e<n->g (0+e)=g e) zw)))))))):=by kernel_rfl
abbrev nr14(a0:Int×Nat×(Nat->Nat))(a1:Rk)(k:V):V:=U (0<1/\0+a0.fst.toNat<a1.n) (U (0<1/\0+a0.fst.toNat<a1.n) k)
theorem vCp_eq(x:Rk)(c:Nat)(kc:Nat->Nat):V.pr .z (vCp x c kc)=
 U (O 0<=O 0/\O 0<=(↑x.n:Int)/\0<=0/\∀(e:Nat),e<0->x.kl e<=0) (nN [(1,.eqI 0 0),(3,.eq 0 0),(1,.le 0 0),qF 0 x.p,qF 0 x.pa,qF 0 x.pc,qF 0 x.lf,qF 0 x.wt,qF 0 (fun (e:Nat)=>e),qF 0 x.kl,qF 0 (fun (e:Nat)=>0),qF 0 x.st] (U (∀(i:Nat),0=0\/0=0) (U (∀(i:Nat),upto 0 x.kl i<=0/\upto 0 x.kl i<=0) (nN [(1,.pf (∀(i e:Nat),e<upto 0 x.kl i->x.kd i e=x.kd i e) (by intros;rfl))] (ze (Int×Nat×(Nat->Nat)) (fun (q:Int×Nat×(Nat->Nat))=>O 0<=q.fst/\q.fst<=(↑x.n:Int)/\q.fst.toNat<=q.snd.fst/\∀(e:Nat),e<q.fst.toNat->x.kl e<=q.snd.snd e) fun y0=>zj (decide (y0.fst<(↑x.n:Int))) (U (O 0<=y0.fst/\y0.fst<(↑x.n:Int)) (nr14 y0 x (nr14 y0 x (nr14 y0 x (nr14 y0 x (U (0+x.kl (0+y0.fst.toNat)<=if 0+y0.fst.toNat<x.n then x.kl (0+y0.fst.toNat) else 0) (nN [(1,.eq 0 0)] (U (0+x.kl (0+y0.fst.toNat)<=9223372036854775807/\(0+x.kl (0+y0.fst.toNat))*8<=140737488355328) (ze Nat (fun (x_2:Nat)=>0+x.kl (0+y0.fst.toNat)<=x_2) fun y1=>nN [(7,.lt 0 1)] (U (y0.fst.toNat<=y0.fst.toNat/\y0.snd.fst=y0.snd.fst) (U (y0.fst.toNat+1<=9223372036854775807/\(y0.fst.toNat+1)*72<=140737488355328) (ze Nat (fun (x:Nat)=>y0.fst.toNat+1<=x) fun y2=>U (True/\∀(i e:Nat),i=0/\e<y0.fst.toNat+1->¬(i=0/\e=y0.fst.toNat)->e≠y0.fst.toNat) (U (O 0<=i64.wrap (y0.fst+O 1)/\i64.wrap (y0.fst+O 1)<=(↑x.n:Int)/\(i64.wrap (y0.fst+O 1)).toNat<=y2/\∀(e:Nat),e<(i64.wrap (y0.fst+O 1)).toNat->x.kl e<=if e=y0.fst.toNat then y1 else y0.snd.snd e) (U (x.n-(i64.wrap (y0.fst+O 1)).toNat<x.n-y0.fst.toNat) (nN [qE (i64.wrap (y0.fst+O 1))] (U (y0.fst.toNat+1=(i64.wrap (y0.fst+O 1)).toNat) (nN [qE y2,qE y2] (U ((i64.wrap (y0.fst+O 1)).toNat<=y0.fst.toNat+1) (U (∀(e:Nat),e<(i64.wrap (y0.fst+O 1)).toNat->(if 0=0/\e=y0.fst.toNat then x.p (0+y0.fst.toNat) else x.p e)=x.p e) (U (∀(e:Nat),e<(i64.wrap (y0.fst+O 1)).toNat->(if 0=0/\e=y0.fst.toNat then x.pa (0+y0.fst.toNat) else x.pa e)=x.pa e) (U (∀(e:Nat),e<(i64.wrap (y0.fst+O 1)).toNat->(if 0=0/\e=y0.fst.toNat then x.pc (0+y0.fst.toNat) else x.pc e)=x.pc e) (U (∀(e:Nat),e<(i64.wrap (y0.fst+O 1)).toNat->(if 0=0/\e=y0.fst.toNat then x.lf (0+y0.fst.toNat) else x.lf e)=x.lf e) (U (∀(e:Nat),e<(i64.wrap (y0.fst+O 1)).toNat->(if 0=0/\e=y0.fst.toNat then x.wt (0+y0.fst.toNat) else x.wt e)=x.wt e) (nN [(1,.pf (∀(e:Nat),e<(i64.wrap (y0.fst+O 1)).toNat->e=e) (by intros;rfl))] (U (∀(e:Nat),e<(i64.wrap (y0.fst+O 1)).toNat->(if 0=0/\e=y0.fst.toNat then 0+x.kl (0+y0.fst.toNat) else x.kl e)=x.kl e) (U (∀(e:Nat),e<(i64.wrap (y0.fst+O 1)).toNat->(if 0=0/\e=y0.fst.toNat then y1 else y0.snd.snd e)=if e=y0.fst.toNat then y1 else y0.snd.snd e) (U (∀(e:Nat),e<(i64.wrap (y0.fst+O 1)).toNat->(if 0=0/\e=y0.fst.toNat then x.st (0+y0.fst.toNat) else x.st e)=x.st e) (U (∀(i:Nat),((if i=y0.fst.toNat then y1 else y0.snd.snd i)=if i=y0.fst.toNat then y1 else y0.snd.snd i)\/(if i=y0.fst.toNat then y1 else y0.snd.snd i)=0) (U (∀(i:Nat),(upto (i64.wrap (y0.fst+O 1)).toNat x.kl i<=if i=y0.fst.toNat then y1 else y0.snd.snd i)/\upto (i64.wrap (y0.fst+O 1)).toNat x.kl i<=if i=y0.fst.toNat then 0+x.kl (0+y0.fst.toNat) else upto y0.fst.toNat x.kl i) (U (∀(i e:Nat),e<upto (i64.wrap (y0.fst+O 1)).toNat x.kl i->(if i=y0.fst.toNat then x.kd (0+y0.fst.toNat) (0+e) else x.kd i e)=x.kd i e) zw)))))))))))))))))))))))))))))) (U (x.n<=y0.snd.fst/\∀(e:Nat),e<x.n->x.kl e<=y0.snd.snd e) (U (y0.fst.toNat=x.n) (nN [qE y0.snd.fst] (U (∀(i:Nat),y0.snd.snd i=y0.snd.snd i\/y0.snd.snd i=0) (U (∀(i:Nat),upto x.n x.kl i<=y0.snd.snd i/\upto x.n x.kl i<=upto y0.fst.toNat x.kl i) (nN [(1,.pf (∀(i e:Nat),e<upto x.n x.kl i->x.kd i e=x.kd i e) (by intros;rfl)),qE y0.snd.fst] (U (x.n<=y0.fst.toNat) (nN [qF x.n x.p,qF x.n x.pa,qF x.n x.pc,qF x.n x.lf,qF x.n x.wt,qF x.n (fun (e:Nat)=>e),qF x.n x.kl,qF x.n y0.snd.snd,qF x.n x.st] zw))))))))))))):=by kernel_rfl
theorem on_le{i:Nat}{f:Nat->Nat}(j:Nat):onI i (f i) j<=f j:=by
 unfold onI
 split
 ·rename_i e;rw[e];exact Z _
 ·exact Nat.zero_le _
theorem vhSr{x:Rk}{c d:Nat}{kc kd:Nat->Nat}(h:okRk x):zad (vSr x c d kc kd):=by
 have hn:=h.1
 refine zad.pr (vSr_eq ..) ?_
 (with_reducible repeat' first|exact zk|refine zn ?_|refine zm ?_|refine zl ?_ ?_|refine zi ?_|refine nN_h rfl ?_|refine z9 ?_ ?_|intro _)
 all_goals try (simp only[decide_eq_true_eq,decide_eq_false_iff_not,zz,z7,za,ge_iff_le,gt_iff_lt,zx,zf,zg,zd]at *)
 all_goals first|omega|exact cI_0|exact cI_s hn ‹_› ‹_›|exact cI_m hn ‹_› ‹_›|rfl|(simp;done)|exact h.2 _|exact on_le _|trace_state
theorem vhCl{n cap:Nat}{g:Nat->Int}(hn:n<=1000000):zad (vCl n cap g):=by
 refine zad.pr (vCl_eq ..) ?_
 refine z9 ⟨false,fun h=>by cases h⟩ (zi fun b hb=>zl (fun h=>?_) fun h=>?_)
 ·have:n=0:=by have:=hb h;omega
  subst this
  (with_reducible repeat' first|exact zk|refine zn ?_|refine zm ?_|refine zl ?_ ?_|refine zi ?_|refine nN_h rfl ?_|refine z9 ?_ ?_|intro _)
  all_goals first|omega|rfl
 ·(with_reducible repeat' first|exact zk|refine zn ?_|refine zm ?_|refine zl ?_ ?_|refine zi ?_|refine nN_h rfl ?_|refine z9 ?_ ?_|intro _)
  all_goals first|omega|(rw[Nat.zero_add])|(intros;rw[Nat.zero_add])
theorem upto_le{n:Nat}{f g:Nat->Nat}(h:∀e,e<n->f e<=g e)(i:Nat):upto n f i<=g i:=by
 unfold upto
 split
 ·exact h i ‹_›
 ·exact Nat.zero_le _
theorem vhCp{x:Rk}{c:Nat}{kc:Nat->Nat}(h:okRk x):zad (vCp x c kc):=by
 have hn:=h.1
 refine zad.pr (vCp_eq ..) ?_
 have u0:∀i,upto 0 x.kl i<=0:=fun i=>by simp[upto]
 ((repeat' first|with_reducible refine nN_h rfl ?_|with_reducible refine zn ?_|with_reducible refine zm ?_|with_reducible refine z9 ?_ ?_)<;>(try first|with_reducible exact zk|exact rfl|exact⟨Z _,rfl⟩|exact Z _|assumption|omega|trivial|decide|(intros;rfl)|(intros;trivial)))
 ·exact⟨Int.le_refl _,Int.natCast_nonneg _,Z _,fun e he=>absurd he (Nat.not_lt_zero _)⟩
 ·exact fun i=>⟨u0 i,u0 i⟩
 refine zi fun q hq=>?_
 obtain⟨i,c1,f⟩:=q
 dsimp only at hq ⊢
 obtain⟨h0,h1,h2,h3⟩:=hq
 obtain⟨i,rfl⟩:=Int.eq_ofNat_of_zero_le h0
 simp only[zz,Int.natCast_one,Int.natCast_zero,Int.toNat_natCast,Nat.zero_add,true_and,if_true]at h0 h1 h2 h3 ⊢
 refine zl (fun hi=>?_) fun hi=>?_
 ·have hi:i<x.n:=by have:=of_decide_eq_true hi;omega
  have hk:=h.2 i
  have ei:i64.wrap ((i:Int)+1)=((i+1:Nat):Int):=wnat (by omega)
  simp only[ei,Int.toNat_natCast]
  ((repeat' first|with_reducible refine nN_h rfl ?_|with_reducible refine zn ?_|with_reducible refine zm ?_|with_reducible refine z9 ?_ ?_)<;>(try first|with_reducible exact zk|exact rfl|exact⟨Z _,rfl⟩|exact Z _|assumption|omega|trivial|decide|(intros;rfl)|(intros;trivial)))
  ·rw[if_pos hi];exact Z _
  refine zi fun c2 hc2=>?_
  ((repeat' first|with_reducible refine nN_h rfl ?_|with_reducible refine zn ?_|with_reducible refine zm ?_|with_reducible refine z9 ?_ ?_)<;>(try first|with_reducible exact zk|exact rfl|exact⟨Z _,rfl⟩|exact Z _|assumption|omega|trivial|decide|(intros;rfl)|(intros;trivial)))
  ·exact⟨Z _,trivial⟩
  refine zi fun c3 hc3=>?_
  have hf:∀e,e<i+1->x.kl e<=if e=i then c2 else f e:=fun e he=>by
   split
   ·rename_i e';rw[e'];exact hc2
   ·exact h3 e (by omega)
  ((repeat' first|with_reducible refine nN_h rfl ?_|with_reducible refine zn ?_|with_reducible refine zm ?_|with_reducible refine z9 ?_ ?_)<;>(try first|with_reducible exact zk|exact rfl|exact⟨Z _,rfl⟩|exact Z _|assumption|omega|trivial|decide|(intros;rfl)|(intros;trivial)))
  all_goals try exact fun e he=>(by split;(rename_i e';rw[e']);rfl)
  ·exact⟨Int.natCast_nonneg _,by omega,hc3,hf⟩
  ·exact fun _=>.inl trivial
  ·refine fun j=>⟨upto_le hf j,?_⟩
   unfold upto
   split<;>split<;>first|omega|(rename_i e';rw[e'];exact Z _)|(split<;>first|omega|exact Z _)
  all_goals exact fun j e he=>(by split;(rename_i e';rw[e']);rfl)
 ·have hi:i=x.n:=by have:=of_decide_eq_false hi;omega
  subst hi
  ((repeat' first|with_reducible refine nN_h rfl ?_|with_reducible refine zn ?_|with_reducible refine zm ?_|with_reducible refine z9 ?_ ?_)<;>(try first|with_reducible exact zk|exact rfl|exact⟨Z _,rfl⟩|exact Z _|assumption|omega|trivial|decide|(intros;rfl)|(intros;trivial)))
  ·exact fun _=>.inl trivial
  ·exact fun i=>⟨upto_le h3 i,Z _⟩
noncomputable section
def colBool:Col->Option (Nat->Bool)
 | .cb g=>some fun e=>g 0 e
 | .cc (.kb b)=>some fun _=>b
 | _=>none
def rdRk(kr:Nat)(n:Nat)(h:HL):Option (Rk×Nat×(Nat->Nat)):=match (find kr h).map zfe with
 | some [a,b,c,d,e,.cs kf _ _ ln cp,f]=>match colG a,colG b,colG c,colG d,colG e,colBool f,famK kf h with
  | some a,some b,some c,some d,some e,some f,some G=>some (⟨n,fun i=>a i,fun i=>b i,fun i=>c i,fun i=>d i,fun i=>e i,fun i=>ln 0 i,fun i j=>G i j,fun i=>f i⟩,kf,fun i=>cp 0 i)
  | _,_,_,_,_,_,_=>none
 | _=>none
def kidK(kr:Nat)(h:HL):Option (Nat×(Nat->Nat)):=match (find kr h).map zfe with
 | some [_,_,_,_,_,.cs kf _ _ _ cp,_]=>some (kf,fun i=>cp 0 i)
 | _=>none
def cSr:List SV->Hp->Out (SV×Hp):=fun args H=>match args with
 | [.c (.slc k _ _ _ n cap),.c (.slc k2 _ _ _ n2 cap2)]=>fN k fun k=>fN k2 fun k2=>match rdRk k n.v H.h,kidK k2 H.h with
  | some (x,f1,c1),some (f2,c2)=>useP [k,k2,f1,f2] 4 [.c (slK 0 7 x.n cap.v),.c (slK 1 7 x.n cap2.v)] [(0,x.rowV 2 c1),(1,x.rowV 3 c2),(2,x.famV),(3,x.famV)] (yesO 4 (okRk x)) args H
  | _,_=>.bad 480
 | _=>.bad 481
theorem conSr_ok:zaj P conSr:=.add cIn_ok zaj.nil
theorem cSr_ok:zab P fSr cSr:=zac fun args H=>by
 unfold cSr
 simp only[fN_eq]
 repeat' split
 all_goals first|exact .inl ⟨_,rfl⟩|exact .inr ⟨_,_,_,_,_,rfl,zai conSr_ok fun h=>vhSr h⟩
def cCl:List SV->Hp->Out (SV×Hp):=fun args H=>match args with
 | [.c (.slc k _ _ _ n cap)]=>fN k fun k=>match rowW k H.h with
  | some g=>useP [k] 1 [.c (slK 0 1 n.v cap.v)] [(0,.view 1 (fun _=>n.v) [.ci .u64 fun _ e=>g e])] (.need (n.v<=1000000) (.any Nat (fun c=>n.v<=c) fun c=>.leaf (.c (slK 1 1 n.v c),⟨[(1,.row 48 c n.v [.ci .u64 fun _ e=>g e])],2,fun _=>True⟩))) args H
  | none=>.bad 480
 | _=>.bad 481
theorem cCl_ok:zab P fCl cCl:=zac fun args H=>by
 unfold cCl
 simp only[fN_eq]
 repeat' split
 all_goals first|exact .inl ⟨_,rfl⟩|exact .inr ⟨_,_,_,_,_,rfl,zae zaj.nil fun h=>vhCl h⟩
def outCp(x:Rk):Out (SV×Hp):=.need (okRk x) (.any (Nat×(Nat->Nat)) (fun q=>x.n<=q.1/\∀e,e<x.n->x.kl e<=q.2 e) fun q=>.leaf (.c (slK 3 7 x.n q.1),⟨[(2,x.fam x.n q.2),(3,x.row 2 q.2 q.1)],4,fun _=>True⟩))
def cCp:List SV->Hp->Out (SV×Hp):=fun args H=>match args with
 | [.c (.slc k _ _ _ n cap)]=>fN k fun k=>match rdRk k n.v H.h with
  | some (x,f1,c1)=>useP [k,f1] 2 [.c (slK 0 7 x.n cap.v)] [(0,x.rowV 1 c1),(1,x.famV)] (outCp x) args H
  | none=>.bad 480
 | _=>.bad 481
theorem cCp_ok:zab P fCp cCp:=zac fun args H=>by
 unfold cCp
 simp only[fN_eq]
 repeat' split
 all_goals first|exact .inl ⟨_,rfl⟩|exact .inr ⟨_,_,_,_,_,rfl,zae zaj.nil fun h=>vhCp h⟩
end
noncomputable section
def outI2(len cap:NV)(M:Mm)(x:Int):Out (SV×Hp):=.any Mm (fun m'=>m'=M) fun m'=>.leaf (.c (uw x),⟨hN len cap m',2,fun _=>True⟩)
def outV2(k:IntKind)(x:Int):Out (SV×Hp):=.leaf (.c (.iv k x),⟨[],2,fun _=>True⟩)
end
section
variable {f:FuncId} {args:List SV} {len cap:NV} {m M:Mm}
theorem name_I2{x:Int}(h:zah P f args (hM len.v cap.v m) 2 (.need True (.leaf (.c (uw x),⟨hM len.v cap.v M,2,fun _=>True⟩)))):zah P f args (hN len cap m) 2 (outI2 len cap M x):=
 (zdz h pre_N).same fun K hK=>⟨trivial,_,_,SVe.refl _,same_N,hK.2 M rfl⟩
theorem name_V2{k:IntKind}{x:Int}(h:zah P f args (hV len.v cap.v m) 2 (.need True (.leaf (.c (.iv k x),⟨[],2,fun _=>True⟩)))):zah P f args (hW len cap m) 2 (outV2 k x):=
 (zdz h pre_W).mono fun K hK=>⟨trivial,hK⟩
end
noncomputable section
def uLd:List SV->Hp->Out (SV×Hp):=nacc fun x σ r=>match r with
 | [a]=>useP σ 2 [ptM,.c (i6 a)] (hN x.len x.cap x.m) (outI2 x.len x.cap (x.m.acc x.len.v 1 a (x.m.val x.len.v a)) (x.m.val x.len.v a))
 | _=>fun _ _=>.bad 482
def uCt:List SV->Hp->Out (SV×Hp):=nacc fun x σ r=>match r with
 | []=>useP σ 2 [ptM] (hW x.len x.cap x.m) (outV2 .i64 x.m.ct)
 | _=>fun _ _=>.bad 482
theorem uLd_ok:zab P fLd uLd:=nacc_ok fun x σ r args H=>by
 repeat' split
 all_goals first|exact .inl ⟨_,rfl⟩|exact .inr ⟨_,_,_,_,_,rfl,name_I2 (zai zaj.nil fun _=>vhMLd)⟩
theorem uCt_ok:zab P fCt uCt:=nacc_ok fun x σ r args H=>by
 repeat' split
 all_goals first|exact .inl ⟨_,rfl⟩|exact .inr ⟨_,_,_,_,_,rfl,name_V2 (zai zaj.nil fun _=>vhMCt)⟩
def conU(c:Con):Con:=Con.add fLd uLd (Con.add fSt nSt (Con.add fCt uCt (c)))
theorem conU_ok{c:Con}(h:zaj P c):zaj P (conU c):=.add uLd_ok (.add nSt_ok (.add uCt_ok (h)))
end
structure Cm where
 n:Nat
 m:Mm
 now:Int
 x:Rk
 ne:Nat
 ev:Evs
structure Rm where
 c:Nat
 r:Nat
 k:Nat->Nat
 e:Nat
def okCm(q:Cm):Prop:=q.n<=1000000/\okRk q.x/\q.ne<=1000000
noncomputable section
def ck1(c:SC):Col:=.ck [c]
def peV(km kk kr ke:Nat)(q:Cm)(a:Rm):Blk:=.view 1 (fun _=>1) (List.replicate 22 .cu++[ck1 (.ptr km (.k 0) (.k 0) 0 6),ck1 (.ptr kk (.k 0) (.k 0) 0 2),ck1 (slK kr 7 q.x.n a.r),ck1 (slK ke 5 q.ne a.e)])
def pmV(kc:Nat)(q:Cm)(a:Rm):Blk:=.view 1 (fun _=>1) [ck1 (slK kc 1 q.n a.c),ck1 (i6 q.m.lk),ck1 (i6 q.m.lc),ck1 (uw q.m.lo),ck1 (uw q.m.ln),ck1 (i6 q.m.ct)]
def reV(kc kr ke:Nat)(q:Cm)(a:Rm):Blk:=.view 1 (fun _=>1) (List.replicate 11 .cu++[ck1 (slK kc 1 q.n a.c),ck1 (i6 q.m.lk),ck1 (i6 q.m.lc),ck1 (uw q.m.lo),ck1 (uw q.m.ln),ck1 (i6 q.m.ct),ck1 (i6 q.now),.cu,ck1 (slK kr 7 q.x.n a.r),ck1 (slK ke 5 q.ne a.e)])
def hSm(q:Cm)(a b:Rm):HL:=[(0,peV 1 3 4 5 q a),(1,pmV 2 q a),(2,wV q.n q.m.g),(3,.view 1 (fun _=>1) [ck1 (i6 q.now),.cu]),(4,q.x.rowV 10 a.k),(5,eV q.ne q.ev),(6,reV 7 8 9 q b),(7,wV q.n q.m.g),(8,q.x.rowV 11 b.k),(9,eV q.ne q.ev),(10,q.x.famV),(11,q.x.famV)]
def fSm:FuncId:=25
def conSm:Con:=Con.add fSw cSw (Con.add fS5 cS5 (Con.add fSr cSr (Con.add fCl cCl con0)))
theorem conSm_ok:zaj P conSm:=.add cSw_ok (.add cS5_ok (.add cSr_ok (.add cCl_ok zaj.nil)))
def argSm:List SV:=[.c (.ptr 0 (.k 0) (.k 0) 0 26),.c (.ptr 6 (.k 0) (.k 0) 0 21)]
def vSm(q:Cm)(a b:Rm):V:=verF P conSm 6 8 fSm [] .nil argSm ⟨hSm q a b,12,fun _=>True⟩ (yesF 12)
end
abbrev nr19(a0:Rk)(l:LP):LP:=(1,.pf (∀(i:Nat),i<a0.n->a0.kl i<=a0.kl i) (by intros;exact Z _))::(1,.pf (∀(i e:Nat),i<a0.n/\e<a0.kl i->a0.kd i e=a0.kd i e) (by intros;rfl))::l
abbrev nr23(a0:Rk)(l:LP):LP:=(1,.pf (∀(i e:Nat),i<1/\e<a0.n->a0.pa e=a0.pa e) (by intros;rfl))::(1,.pf (∀(i e:Nat),i<1/\e<a0.n->a0.pc e=a0.pc e) (by intros;rfl))::l
abbrev nr24(a0:Rk)(l:LP):LP:=(1,.pf (∀(i e:Nat),i<1/\e<a0.n->a0.lf e=a0.lf e) (by intros;rfl))::(1,.pf (∀(i e:Nat),i<1/\e<a0.n->a0.wt e=a0.wt e) (by intros;rfl))::l
abbrev nr27(a0:Rk)(l:LP):LP:=(1,.pf (∀(i:Nat),i<1->a0.n<=a0.n) (by intros;exact Z _))::(1,.pf (∀(i e:Nat),i<1/\e<a0.n->a0.p e=a0.p e) (by intros;rfl))::l
abbrev nr29(a0:Rk)(l:LP):LP:=(1,.pf (∀(i e:Nat),i<1/\e<a0.n->e=e) (by intros;rfl))::(1,.pf (∀(i e:Nat),i<1/\e<a0.n->a0.kl e=a0.kl e) (by intros;rfl))::l
abbrev nr31(a0:Cm)(a1:Evs)(l:LP):LP:=(1,.pf (∀(i e:Nat),i<1/\e<a0.ne->a1.k e=a1.k e) (by intros;rfl))::(1,.pf (∀(i e:Nat),i<1/\e<a0.ne->a1.w e=a1.w e) (by intros;rfl))::l
abbrev nr35(a0:Rk)(a1:Rm)(l:LP):LP:=(1,.pf (∀(i e:Nat),i<1/\e<a0.n->a1.k e=a1.k e) (by intros;rfl))::(1,.pf (∀(i e:Nat),i<1/\e<a0.n->a0.st e=a0.st e) (by intros;rfl))::l
abbrev nr36(a0:Cm)(a1:Mm)(l:LP):LP:=(1,.pf (∀(i:Nat),i<1->a0.n<=a0.n) (by intros;exact Z _))::(1,.pf (∀(i e:Nat),i<1/\e<a0.n->a1.g e=a1.g e) (by intros;rfl))::l
abbrev nr40(a0:Cm)(l:LP):LP:=(1,.le 1 1)::(1,.pf (∀(i:Nat),i<1->a0.ne<=a0.ne) (by intros;exact Z _))::l
abbrev nr43(a0:Cm)(a1:Evs)(l:LP):LP:=(1,.pf (∀(i e:Nat),i<1/\e<a0.ne->a1.t e=a1.t e) (by intros;rfl))::(1,.pf (∀(i e:Nat),i<1/\e<a0.ne->a1.o e=a1.o e) (by intros;rfl))::(1,.pf (∀(i e:Nat),i<1/\e<a0.ne->a1.l e=a1.l e) (by intros;rfl))::l
theorem vSm_eq(q:Cm)(a b:Rm):V.pr (.t (.t .z)) (vSm q a b)=
 nN ((6,.lt2 0 1 0 1)::qE q.n::qE a.c::(1,.le 1 1)::nr36 q q.m []) (U (q.n<=1000000) (nA (fun (c:Nat)=>q.n<=c) fun y0=>nN [(4,.lt2 0 1 0 1),qE q.n,qE y0,qE q.n,qE b.c,(1,.le 1 1)] (U (q.n<=q.n/\q.n<=y0) (nN ((1,.pf (∀(i e:Nat),i=0/\e<q.n->q.m.g e=q.m.g e) (by intros;rfl))::(1,.le 1 1)::nr36 q q.m []) (U (q.n<=1000000) (nN [(10,.lt2 0 1 0 1)] (U ((q.m.ct == q.m.ct)=true) (nN [(16,.lt2 0 1 0 1)] (U ((q.m.lk == q.m.lk&&(q.m.lc == q.m.lc&&(q.m.lo == q.m.lo&&(q.m.ln == q.m.ln&&true))))=true) (nN ((6,.lt2 0 1 0 1)::qE q.ne::qE a.e::qE q.ne::qE b.e::nr40 q (nr31 q q.ev (nr43 q q.ev (nr40 q (nr31 q q.ev (nr43 q q.ev [])))))) (U (q.ne<=1000000) (nN ((6,.lt2 0 1 0 1)::qE q.x.n::qE a.r::qE q.x.n::qE b.r::(1,.le 1 1)::nr27 q.x (nr23 q.x (nr24 q.x (nr29 q.x (nr35 q.x a ((1,.le 1 1)::nr27 q.x (nr23 q.x (nr24 q.x (nr29 q.x (nr35 q.x b (qL q.x.n::nr19 q.x (qL q.x.n::nr19 q.x [])))))))))))) (U (okRk q.x) (nN [(9,.lt2 0 1 0 1)] (U True (U ((q.now == q.now)=true) zw)))))))))))))))):=by kernel_rfl
theorem vhSm{q:Cm}{a b:Rm}(h:okCm q):zad (vSm q a b):=by
 obtain⟨h1,h2,h3⟩:=h
 refine zad.pr (vSm_eq ..) ?_
 (with_reducible repeat' first|exact zk|refine zn ?_|refine zm ?_|refine zl ?_ ?_|refine zi ?_|refine nN_h rfl ?_|refine z9 ?_ ?_|intro _)
 all_goals first|omega|assumption|rfl|(simp;done)|exact⟨_,Z _⟩|trace_state
noncomputable section
def ceI(k f:Nat)(h:HL):Option Int:=(zax k f h).bind numC
def ceS(k f:Nat)(h:HL):Option (Nat×Nat×Nat):=match zax k f h with
 | some (.slc k _ _ _ n c)=>some (k,n.v,c.v)
 | _=>none
def cSm:List SV->Hp->Out (SV×Hp):=fun args H=>match args with
 | [.c (.ptr ke _ _ _ _),.c (.ptr kr _ _ _ _)]=>fN ke fun ke=>fN kr fun kr=>fN (scK (zax ke 22 H.h)) fun km=>fN (scK (zax ke 23 H.h)) fun kk=>match ceS ke 24 H.h,ceS ke 25 H.h,ceS kr 11 H.h,ceS kr 19 H.h,ceS kr 20 H.h with
  | some (e4,xn,xr),some (e5,ne,er),some (r1,_,bc),some (r4,_,br),some (r5,_,be)=>match rdMm H.h km,ceI kk 0 H.h,rdRk e4 xn H.h,rdEv e5 H.h,kidK r4 H.h with
   | some y,some now,some (x,f1,c1),some ev,some (f2,c2)=>useP [ke,km,y.kc,kk,e4,e5,kr,r1,r4,r5,f1,f2] 12 argSm (hSm ⟨y.len.v,y.m,now,x,ne,ev⟩ ⟨y.cap.v,xr,c1,er⟩ ⟨bc,br,c2,be⟩) (yesO 12 (okCm ⟨y.len.v,y.m,now,x,ne,ev⟩)) args H
   | _,_,_,_,_=>.bad 480
  | _,_,_,_,_=>.bad 481
 | _=>.bad 482
theorem cSm_ok:zab P fSm cSm:=zac fun args H=>by
 unfold cSm
 simp only[fN_eq]
 repeat' split
 all_goals first|exact .inl ⟨_,rfl⟩|exact .inr ⟨_,_,_,_,_,rfl,zai conSm_ok fun h=>vhSm h⟩
end
theorem dr_bd{a n:Int}(h:1<=n):0<=dr a n/\dr a n<n:=by
 unfold dr
 rw[if_neg (by omega)]
 exact⟨Int.emod_nonneg _ (by omega),Int.emod_lt_of_pos _ (by omega)⟩
theorem vhDr{a n:Int}(h:n<=9223372036854775807):zad (vDr a n):=by
 constructor
 rw[vDr_eq]
 by_cases hn:n<1
 ·have e:dr a n=0:=by unfold dr;rw[if_pos hn]
  rw[e]
  (with_reducible repeat' first|exact zk|refine zn ?_|refine zm ?_|refine zl ?_ ?_|refine zi ?_|refine nN_h rfl ?_|refine z9 ?_ ?_|intro _)
  all_goals (simp only[decide_eq_true_eq,decide_eq_false_iff_not,zz,z7,za,ge_iff_le,gt_iff_lt,zx,zf,zg,zd]at *)
  all_goals first|omega|rfl|trace_state
 ·have e:dr a n=a % n:=by unfold dr;rw[if_neg hn]
  have e2:=Int.emod_def a n
  have e3:=Int.emod_nonneg a (show n≠0 by omega)
  have e4:=Int.emod_lt_of_pos a (show 0<n by omega)
  have e5:a.tmod n=a % n\/(a.tmod n=a % n-n):=by
   rw[Int.tmod_eq_emod]
   split
   ·left;simp
   ·right;omega
  have e6:a.tmod n<0->i64.wrap (a.tmod n+n)=a % n:=fun hlt=>by
   rcases e5 with e5|e5
   ·omega
   ·rw[w64 (by omega)];omega
  have e7:¬a.tmod n<0->a.tmod n=a % n:=fun hlt=>by
   rcases e5 with e5|e5<;>omega
  rw[e]
  (with_reducible repeat' first|exact zk|refine zn ?_|refine zm ?_|refine zl ?_ ?_|refine zi ?_|refine nN_h rfl ?_|refine z9 ?_ ?_|intro _)
  all_goals (simp only[decide_eq_true_eq,decide_eq_false_iff_not,zz,z7,za,ge_iff_le,gt_iff_lt,zx,zf,zg,zd]at *)
  all_goals first|omega|(exact e6 (by omega))|(exact e7 (by omega))|rfl|trace_state
noncomputable section
def cDr:List SV->Hp->Out (SV×Hp):=fun args H=>match args with
 | [.c a,.c n]=>match numC a,numC n with
  | some a,some n=>useP [] 0 [iv a,iv n] [] (.need (n<=9223372036854775807) (.any Int (fun r=>r=dr a n) fun r=>.leaf (.c (i6 r),⟨[],0,fun _=>True⟩))) args H
  | _,_=>.bad 484
 | _=>.bad 485
theorem cDr_ok:zab P fDr cDr:=zac fun args H=>by
 unfold cDr
 repeat' split
 all_goals first|exact .inl ⟨_,rfl⟩|exact .inr ⟨_,_,_,_,_,rfl,zae zaj.nil fun h=>vhDr h⟩
end
def okW(m:Mm):Prop:=∀e,0<=m.g e/\m.g e<=18446744073709551615
def okMw(b:Int)(m:Mm):Prop:=okW m/\0<=m.ct/\m.ct<=b
noncomputable section
def fDi:FuncId:=22
def peM(km:Nat):Blk:=.view 1 (fun _=>1) (List.replicate 22 .cu++[ck1 (.ptr km (.k 0) (.k 0) 0 6),.cu,.cu,.cu])
def pmB(kc:Nat)(len cap:Nat)(m:Mm):Blk:=.own 116 6 ([slK kc 1 len cap,i6 m.lk,i6 m.lc,uw m.lo,uw m.ln,i6 m.ct].map some)
def hDi(r:Rv)(cap:Nat):HL:=[(0,peM 1),(1,pmB 2 r.len cap r.m),(2,wRow cap r.len r.m),(3,r.b 5 6 4 7 8),(4,wRow r.cap r.len r.m),(5,dum 1),(6,dum 3),(7,dum 7),(8,dum 5)]
def hDi2(r:Rv)(cap:Nat):HL:=[(1,pmB 2 r.len cap r.m),(2,wRow cap r.len r.m),(3,r.b 5 6 4 7 8),(4,wRow r.cap r.len r.m)]
def conDi:Con:=Con.add fRA cRA (Con.add fDr cDr (conU con0))
theorem conDi_ok:zaj P conDi:=.add cRA_ok (.add cDr_ok (conU_ok zaj.nil))
def argDi(a v:Int):List SV:=[.c (.ptr 0 (.k 0) (.k 0) 0 26),.c (.ptr 3 (.k 0) (.k 0) 0 21),iv a,iv v]
def vDi(r:Rv)(cap:Nat)(a v:Int):V:=verF P conDi 6 8 fDi [] .nil (argDi a v) ⟨hDi r cap,9,fun _=>True⟩
 (finV (X:=Mm) 9 9 (fun _ H=>(rdMm H.h 1).map fun y=>y.m) (fun _ _=>[]) (okMw (r.m.ct+1)) (fun _=>.t []) (fun m=>hDi2 (r.W m) cap))
end
abbrev nr10(a0:Mm)(a1:Rv)(a2:Int)(k:Mm->V):V:=nN [qX (a0.acc a1.len (O 2) a2 (O 1))] (ze Mm (fun (m':Mm)=>m'=a0.acc a1.len (O 2) a2 (O 1)) fun v0=>k v0)
abbrev nr15(a0:Mm)(l:LP):LP:=qE a0.lk::qE a0.lc::qE a0.lo::qE a0.ln::qE a0.ct::l
abbrev nr16(a0 a1:Mm)(a2:Rv)(k:V):V:=U (okMw (a0.ct+O 1) a1) (nN [qE a2.len] k)
abbrev nr28(a0:Rv)(a1:Mm)(l:LP):LP:=qL a0.len::qF a0.len a1.g::l
abbrev nr37(a0:Cf)(a1:Rv)(l:LP):LP:=(1,.eqI 0 0)::nr11 a0 a1 l
abbrev nr0(l:LP):LP:=(1,.le 0 0)::(1,.pf (∀(i:Nat),i<0->0<=0) (by intros;exact Z _))::l
abbrev nr30(l:LP):LP:=nr0 (nr0 l)
abbrev nr38(l:LP):LP:=nr30 (nr30 l)
abbrev nr39(a0 a1:Mm)(a2:Rv)(k:V):V:=U (a0.lk=a1.lk) (U (a0.lc=a1.lc) (U (a0.lo=a1.lo) (U (a0.ln=a1.ln) (U (a0.ct=a1.ct) (nN (nr9 a2 []) (U (∀(e:Nat),e<a2.len->a0.g e=a1.g e) k))))))
abbrev nrs6(y0:Int)(r:Rv)(cap:Nat):V:=nN (qE y0::(1,.eqI 1 1)::nr37 r.c r (nr15 r.m (nr9 r (qF r.len r.m.g::nr38 [])))) (nr10 r.m r y0 fun y3=>nN ((3,.lt2 0 1 0 1)::qE y0::(1,.eqI 1 1)::qE r.len::qE cap::nr15 r.m (qE cap::nr28 r r.m [])) (nr10 r.m r y0 fun y4=>nr16 r.m y4 r (nN (qE cap::nr15 y4 (qE cap::nr28 r y4 (nr11 r.c r []))) (nr39 y3 y4 r zw))))
abbrev nr25(a0:Int)(l:LP):LP:=qE a0::(1,.eqI 18446744073709551615 18446744073709551615)::l
abbrev nr7(a0:Mm)(a1:Rv)(a2:Int)(k:Mm->V):V:=nN [qX (a0.acc a1.len (O 2) a2 (O 18446744073709551615))] (ze Mm (fun (m':Mm)=>m'=a0.acc a1.len (O 2) a2 (O 18446744073709551615)) fun v0=>k v0)
abbrev nrs7(y0:Int)(r:Rv)(cap:Nat):V:=nN (nr25 y0 (nr37 r.c r (nr15 r.m (nr9 r (qF r.len r.m.g::nr38 []))))) (nr7 r.m r y0 fun y3=>nN ((3,.lt2 0 1 0 1)::nr25 y0 (qE r.len::qE cap::nr15 r.m (qE cap::nr28 r r.m []))) (nr7 r.m r y0 fun y4=>nr16 r.m y4 r (nN (qE cap::nr15 y4 (qE cap::nr28 r y4 (nr11 r.c r []))) (nr39 y3 y4 r zw))))
abbrev nr33(a0:Mm)(a1:Rv)(a2:Int)(k:Mm->V):V:=nN [qX (a0.acc a1.len (O 2) a2 (u64.wrap (a0.g (0+a2.toNat)+O 1)))] (ze Mm (fun (m':Mm)=>m'=a0.acc a1.len (O 2) a2 (u64.wrap (a0.g (0+a2.toNat)+O 1))) fun v0=>k v0)
abbrev nr34(a0:Mm)(a1:Rv)(a2:Int)(k:Mm->V):V:=nN [qX (a0.acc a1.len (O 2) a2 (u64.wrap (a0.g (0+a2.toNat)-O 1)))] (ze Mm (fun (m':Mm)=>m'=a0.acc a1.len (O 2) a2 (u64.wrap (a0.g (0+a2.toNat)-O 1))) fun v0=>k v0)
theorem vDi_eq(r:Rv)(cap:Nat)(a v:Int):V.pr .z (vDi r cap a v)=
 zj ((↑r.len:Int) == O 0) (U (okMw (r.m.ct+O 1) r.m) (nN (qE r.len::qE cap::nr15 r.m (qE cap::nr28 r r.m (nr11 r.c r (nr15 r.m (nr9 r [qF r.len r.m.g]))))) zw)) (nN [qE a,qE ((↑r.len:Int))] (U ((↑r.len:Int)<=O 9223372036854775807) (nN [qX (dr a (↑r.len:Int))] (ze Int (fun (r_1:Int)=>r_1=dr a (↑r.len:Int)) fun y0=>nN [qE v,(1,.eqI 6 6),(1,.leI 6 9223372036854775807),qX (dr v (O 6))] (ze Int (fun (r:Int)=>r=dr v (O 6)) fun y1=>nN [(1,.neI 6 0),qE (i64.wrap (v.tdiv (O 6))),(1,.eqI 4 4),(1,.leI 4 9223372036854775807),qX (dr (i64.wrap (v.tdiv (O 6))) (O 4))] (ze Int (fun (r:Int)=>r=dr (i64.wrap (v.tdiv (O 6))) (O 4)) fun y2=>zj (y2 == O 0) (zj (decide (y0 >= O 0)) (zj (!decide (y0<(↑r.len:Int))) (nrs6 y0 r cap) (nr4 y0 r (nN (qE y0::qE (u64.wrap (r.m.g (0+y0.toNat)+O 1))::nr37 r.c r (nr15 r.m (nr9 r (qF r.len r.m.g::nr38 [])))) (nr33 r.m r y0 fun y3=>nN ((3,.lt2 0 1 0 1)::qE y0::qE (u64.wrap (r.m.g (0+y0.toNat)+O 1))::qE r.len::qE cap::nr15 r.m (qE cap::nr28 r r.m [])) (nr33 r.m r y0 fun y4=>nr16 r.m y4 r (nN (qE cap::nr15 y4 (qE cap::nr28 r y4 (nr11 r.c r []))) (nr39 y3 y4 r zw))))))) (nrs6 y0 r cap)) (zj (y2 == O 1) (zj (decide (y0 >= O 0)) (zj (!decide (y0<(↑r.len:Int))) (nrs7 y0 r cap) (nr4 y0 r (nN (qE y0::qE (u64.wrap (r.m.g (0+y0.toNat)-O 1))::nr37 r.c r (nr15 r.m (nr9 r (qF r.len r.m.g::nr38 [])))) (nr34 r.m r y0 fun y3=>nN ((3,.lt2 0 1 0 1)::qE y0::qE (u64.wrap (r.m.g (0+y0.toNat)-O 1))::qE r.len::qE cap::nr15 r.m (qE cap::nr28 r r.m [])) (nr34 r.m r y0 fun y4=>nr16 r.m y4 r (nN (qE cap::nr15 y4 (qE cap::nr28 r y4 (nr11 r.c r []))) (nr39 y3 y4 r zw))))))) (nrs7 y0 r cap)) (nN (qE y0::qE (u64.wrap y1)::nr37 r.c r (nr15 r.m (nr9 r (qF r.len r.m.g::nr38 [qX (r.m.acc r.len (O 2) y0 (u64.wrap y1))])))) (ze Mm (fun (m':Mm)=>m'=r.m.acc r.len (O 2) y0 (u64.wrap y1)) fun y3=>nN ((3,.lt2 0 1 0 1)::qE y0::qE (u64.wrap y1)::qE r.len::qE cap::nr15 r.m (qE cap::nr28 r r.m [qX (r.m.acc r.len (O 2) y0 (u64.wrap y1))])) (ze Mm (fun (m':Mm)=>m'=r.m.acc r.len (O 2) y0 (u64.wrap y1)) fun y4=>nr16 r.m y4 r (nN (qE cap::nr15 y4 (qE cap::nr28 r y4 (nr11 r.c r []))) (nr39 y3 y4 r zw)))))))))))):=by kernel_rfl
theorem zgr{m:Mm}{b:Int}{n:Nat}{k a x:Int}(h:okMw b m)(hb:b<=9000000000)(hx:0<=x/\x<=18446744073709551615):okMw (b+1) (m.acc n k a x):=by
 obtain⟨h1,h2,h3⟩:=h
 refine⟨Mm.ok_acc h1 hx,?_⟩
 unfold Mm.acc
 cases inb n a with
 | false=>exact⟨h2,by show m.ct<=b+1;omega⟩
 | true=>
  show 0<=i64.wrap (m.ct+1)/\i64.wrap (m.ct+1)<=b+1
  rw[w64 (by omega)]
  omega
theorem okMw.le{m:Mm}{a b:Int}(h:okMw a m)(hb:a<=b):okMw b m:=⟨h.1,h.2.1,Int.le_trans h.2.2 hb⟩
theorem okMw.now{m:Mm}{b:Int}(h:okMw b m):okMw m.ct m:=⟨h.1,h.2.1,Int.le_refl _⟩
theorem vhDi{r:Rv}{cap:Nat}{a v:Int}(h:r.len<=1000000)(hm:okMw 1000000000 r.m):zad (vDi r cap a v):=by
 have hz:=hm.2.2
 refine zad.pr (vDi_eq ..) ?_
 (with_reducible repeat' first|exact zk|refine zn ?_|refine zm ?_|refine zl ?_ ?_|refine zi ?_|refine nN_h rfl ?_|refine z9 ?_ ?_|intro _)
 all_goals first|exact True.intro|omega|((simp only[decide_eq_true_eq,decide_eq_false_iff_not,zz,z7,za,ge_iff_le,gt_iff_lt,zx,zf,zg,zd]at *);omega)|(subst_vars;rfl)|(show okMw (r.m.ct+1) r.m;exact hm.now.le (by omega))|(subst_vars;show okMw (r.m.ct+1) _;first|exact zgr hm.now (by omega) (wrap_ok _)|exact zgr hm.now (by omega) (by decide))|trace_state
noncomputable section
def outDi(r:Rv)(cap:Nat):Out (SV×Hp):=.need (r.len<=1000000/\okMw 1000000000 r.m) (.any Mm (okMw (r.m.ct+1)) fun m=>.leaf (.t [],⟨hDi2 (r.W m) cap,9,fun _=>True⟩))
def cDi:List SV->Hp->Out (SV×Hp):=fun args H=>match args with
 | [.c (.ptr ke _ _ _ _),.c (.ptr kr _ _ _ _),.c ca,.c cv]=>fN ke fun ke=>fN kr fun kr=>fN (scK (zax ke 22 H.h)) fun km=>match rdMm H.h km,rdRv kr H.h,numsC [ca,cv]with
  | some y,some (r,[k3,k4,k5,k6,k7,k8]),some [a,v]=>useP [ke,km,y.kc,k3,k4,k5,k6,k7,k8] 9 (argDi a v) (hDi (r.W y.m) y.cap.v) (outDi (r.W y.m) y.cap.v) args H
  | _,_,_=>.bad 480
 | _=>.bad 481
theorem cDi_ok:zab P fDi cDi:=zac fun args H=>by
 unfold cDi
 simp only[fN_eq]
 repeat' split
 all_goals first|exact .inl ⟨_,rfl⟩|exact .inr ⟨_,_,_,_,_,rfl,zae conDi_ok fun h=>vhDi h.1 h.2⟩
end
noncomputable section
def fN28:FuncId:=31
def tEn:TypeId:=80
def tPm:TypeId:=59
end
noncomputable section
end
structure Ev where
 d:Cf
 n:Nat
 m:Mm
 x:Rk
 now:Int
 dr:Int
 a:Rm
 b:Rm
def okEv(c:Cf)(v:Ev):Prop:=IsCl c v.d/\v.n=ncN c/\v.x.n=c.T.toNat/\okRk v.x/\(∀e,e<v.x.n->v.x.kl e<=v.a.k e)/\(∀e,e<v.x.n->v.x.kl e<=v.b.k e)/\v.n<=v.a.c/\v.n<=v.b.c/\v.x.n<=v.a.r/\v.x.n<=v.b.r/\okMw 1000000 v.m
noncomputable section
def eR(c:Cf)(v:Ev):Rv:=⟨c,v.n,v.b.c,v.m,v.now,v.dr,v.x.n,v.b.r,0,v.b.e⟩
def evB(n cap:Nat):Blk:=.row 152 cap n noEv
def fEv:FuncId:=6
def setM(cs:List (Option SC))(m:Mm):List (Option SC):=((((cs.set 12 (some (i6 m.lk))).set 13 (some (i6 m.lc))).set 14 (some (uw m.lo))).set 15 (some (uw m.ln))).set 16 (some (i6 m.ct))
def pmBs(t:Nat)(s:St):Option (Mm->List Blk):=match find (envM t s) s.H.h,find (envC t s) s.H.h with
 | some (.own tm sm (some (.slc kc a b z len cap)::_)),some (.row t2 c2 n _)=>some fun m=>[.own tm sm ([.slc kc a b z len cap,i6 m.lk,i6 m.lc,uw m.lo,uw m.ln,i6 m.ct].map some),.row t2 c2 n [.ci .u64 fun _ e=>m.g e]]
 | _,_=>none
def renC(t:Nat)(s:St):Nat:=scK (zax (tmK t s) 11 s.H.h)
def rmBs(t:Nat)(s:St):Option (Mm->List Blk):=match find (tmK t s) s.H.h,find (renC t s) s.H.h with
 | some (.own te se cs),some (.row t2 c2 n _)=>some fun m=>[.own te se (setM cs m),.row t2 c2 n [.ci .u64 fun _ e=>m.g e]]
 | _,_=>none
structure XIm where
 i:Int
 m:Mm
def rdEvs(s:SV)(H:Hp):Option Ev:=match s with
 | .t [.c (.ptr ke _ _ _ _),.c (.ptr kr _ _ _ _),_]=>fN ke fun ke=>fN kr fun kr=>fN (scK (zax ke 22 H.h)) fun km=>fN (scK (zax ke 23 H.h)) fun kk=>match cfE ke H.h,rdMm H.h km,ceS ke 24 H.h,ceS ke 25 H.h,ceI kk 0 H.h,ceI kk 1 H.h,rdRv kr H.h with
  | some d,some y,some (e4,xn,xr),some (e5,_,er),some now,some dr,some (r,[_,_,_,_,r4,_])=>match rdRk e4 xn H.h,kidK r4 H.h with
   | some (x,_,c1),some (_,c2)=>some ⟨d,y.len.v,y.m,x,now,dr,⟨y.cap.v,xr,c1,er⟩,⟨r.cap,r.rc,c2,r.nc⟩⟩
   | _,_=>none
  | _,_,_,_,_,_,_=>none
 | _=>none
def LEv(s:SV)(H:Hp):List Nat:=match s with
 | .t [.c (.ptr ke _ _ _ _),.c (.ptr kr _ _ _ _),_]=>fN ke fun ke=>fN kr fun kr=>match ceS ke 24 H.h,ceS ke 25 H.h,ceS kr 11 H.h,ceS kr 19 H.h,ceS kr 20 H.h,ceS ke 9 H.h,ceS ke 10 H.h with
  | some (e4,_,_),some (e5,_,_),some (r1,_,_),some (r4,_,_),some (r5,_,_),some (p,_,_),some (u,_,_)=>match kidK e4 H.h,kidK r4 H.h with
   | some (f1,_),some (f2,_)=>[ke,scK (zax ke 22 H.h),scK (zax (scK (zax ke 22 H.h)) 0 H.h),scK (zax ke 23 H.h),e4,f1,e5,p,u,(match find p H.h with|some (.row _ _ _ [.cs kF _ _ _ _])=>kF|_=>0),kr,r1,r4,f2,r5]
   | _,_=>[]
  | _,_,_,_,_,_,_=>[]
 | _=>[]
end
noncomputable section
end
end Go.Proofs.YtabiechfpefjhaaGreat.En
