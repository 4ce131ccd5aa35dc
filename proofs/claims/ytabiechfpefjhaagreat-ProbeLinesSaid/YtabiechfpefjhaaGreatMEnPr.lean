/- A part of the proof. -/
import Derived.Test.YtabiechfpefjhaaGreatMEnG
import Derived.Test.YtabiechfpefjhaaGreatMEn
import Derived.Test.YtabiechfpefjhaaGreatMMdPs
import Derived.Test.YtabiechfpefjhaaGreatMEg
import Derived.Test.YtabiechfpefjhaaGreatMW
import Derived.Test.YtabiechfpefjhaaGreatMV
import Derived.Test.YtabiechfpefjhaaGreatMMd
set_option maxHeartbeats 64000000
set_option linter.unusedVariables false
set_option linter.unusedSimpArgs false
set_option maxRecDepth 100000
open Go.IntKind (i64 u64)
open Int renaming ofNat -> O
open Go.Proofs.YtabiechfpefjhaaGreat.Sx.V renaming need -> U
namespace Go.Proofs.YtabiechfpefjhaaGreat.En
open Go Go.RowKit Sx Cn Dc Ck Vc Md
noncomputable section
structure Fp where
 ln:Int
 a:Int
 i:Int
 j:Int
 n:Int
 t:Int
structure Rr where
 b:Bool
 c:Int
 v:Int
 m:Mm
 f:Fp
def fRpb:FuncId:=91
def fpR(f:Fp):List Col:=frF 21 (i6 f.ln) (i6 f.a) z6 z6 (i6 f.i) (i6 f.j) (i6 f.n) (i6 f.t) zU zU zU zU
def fpB(cf:Nat)(f:Fp):Blk:=.row tFr cf 1 (fpR f)
def hdC(c:Col):Option Int:=match c with
 | .ck [x]=>numC x
 | _=>none
def rdFp(b:Option Blk):Option Fp:=match b with
 | some (.row _ _ _ (_::l::_::_::_::_::a::_::_::i::j::n::t::_))=>match hdC l,hdC a,hdC i,hdC j,hdC n,hdC t with
  | some l,some a,some i,some j,some n,some t=>some ⟨l,a,i,j,n,t⟩
  | _,_,_,_,_,_=>none
 | _=>none
def rdRr(s:SV)(H:Hp):Option Rr:=match s with
 | .a [a,b,c]=>match boolC a,numC b,numC c,rdFp (find 6 H.h),rdRv 0 H.h with
  | some b,some c,some v,some f,some (r,_)=>some ⟨b,c,v,r.m,f⟩
  | _,_,_,_,_=>none
 | _=>none
def conPr:Con:=Con.add fRA cRA (Con.add fRm xBr (Con.add fHi xHi (Con.add fDr cDr con0)))
theorem conPr_ok:zaj P conPr:=.add cRA_ok (.add xBr_ok (.add xHi_ok (.add cDr_ok zaj.nil)))
def hPr(r:Rv)(f:Fp)(cf:Nat):HL:=r.h++[(6,fpB cf f)]
def argPr:List SV:=[.c (.ptr 0 (.k 0) (.k 0) 0 21),.c (.ptr 6 (.k 0) (.k 0) 0 18)]
def paPr:List ((St->Nat)×Bool):=[(fun _=>0,true),(fun _=>1,true),(fun _=>6,true),(tmK 4,true)]
def laP1(r:Rv)(cf:Nat)(I:Fp->Prop)(s:St):Option (LA Fp):=(find (tmK 4 s) s.H.h).map fun b4=>⟨paPr,fun x=>[r.b 2 3 1 4 5,wRow r.cap r.len r.m,fpB cf x,b4],[],fun _=>[],fun s=>rdFp (find 6 s.H.h),I,fun _=>0⟩
def laP2(r:Rv)(cf:Nat)(I:Fp×Int->Prop)(s:St):Option (LA (Fp×Int)):=(find (tmK 4 s) s.H.h).map fun b4=>⟨paPr,fun x=>[r.b 2 3 1 4 5,wRow r.cap r.len r.m,fpB cf x.1,b4],[7],fun x=>[iv x.2],fun s=>match rdFp (find 6 s.H.h),tmI 7 s with|some f,some v=>some (f,v)|_,_=>none,I,fun _=>0⟩
def laP3(r:Rv)(cf:Nat)(I:Mm×Fp->Prop)(s:St):Option (LA (Mm×Fp)):=(find (tmK 4 s) s.H.h).map fun b4=>⟨paPr,fun x=>[(r.W x.1).b 2 3 1 4 5,wRow r.cap r.len x.1,fpB cf x.2,b4],[],fun _=>[],fun s=>match rdFp (find 6 s.H.h),rdRv 0 s.H.h with|some f,some (r,_)=>some (r.m,f)|_,_=>none,I,fun _=>0⟩
def avPr(r:Rv)(cf:Nat)(I1:Int×Int->Prop)(I2:Bool×Int->Prop)(I3:Fp->Prop)(I4:Fp×Int->Prop)(I5:Mm×Fp->Prop):AV:=.cut 1003 Fp (laP1 r cf I3) .nil (.loop (Int×Int) [] (fun _=>some ⟨[],fun _=>[],[5,6],fun x=>[iv x.1,iv x.2],fun s=>match tmI 5 s,tmI 6 s with|some a,some b=>some (a,b)|_,_=>none,I1,fun x=>(r.c.W-x.2).toNat⟩) .nil
 (.cut 12015 (Fp×Int) (laP2 r cf I4) .nil (.cut 18 (Mm×Fp) (laP3 r cf I5) .nil (.loop (Bool×Int) [] (fun _=>some ⟨[],fun _=>[],[9,10],fun x=>[.c (.bv x.1),iv x.2],fun s=>match tmB 9 s,tmI 10 s with|some a,some b=>some (a,b)|_,_=>none,I2,fun x=>(r.c.W-x.2).toNat⟩) .nil .nil))))
def svRr(x:Rr):SV:=.a [.bv x.b,i6 x.c,i6 x.v]
def vPr(r:Rv)(f:Fp)(cf:Nat)(I1:Int×Int->Prop)(I2:Bool×Int->Prop)(I3:Fp->Prop)(I4:Fp×Int->Prop)(I5:Mm×Fp->Prop)(φ:Rr->Prop):V:=verF P conPr 8 10 fRpb [] (avPr r cf I1 I2 I3 I4 I5) argPr ⟨hPr r f cf,7,fun _=>True⟩
 (finV (X:=Rr) 7 7 rdRr (fun _ _=>[]) φ svRr (fun x=>(r.W x.m).h2++[(6,fpB cf x.f)]))
end
abbrev qPr0(l:List (Nat×P0)):List (Nat×P0):=(1,.le 0 0)::(1,.pf (∀(i:Nat),i<0->0<=0) (by intros;exact Nat.le_refl _))::l
abbrev qPr1(a0:Rv)(l:List (Nat×P0)):List (Nat×P0):=qE a0.c.W::qE a0.c.L::qE a0.c.C::qE a0.c.T::qE a0.c.D::qE a0.c.H::qE a0.c.B::qE a0.c.A::qE a0.c.P::qE a0.c.nP::qE a0.c.rc::qE a0.c.nU::qE a0.c.cu::l
abbrev qPr2(a0:Rv)(l:List (Nat×P0)):List (Nat×P0):=qPr1 a0 (qE a0.len::qE a0.cap::l)
abbrev qPr3(a0:Rv)(l:List (Nat×P0)):List (Nat×P0):=qE a0.cap::qL a0.len::l
abbrev qPr4(a0:Nat)(l:List (Nat×P0)):List (Nat×P0):=qE a0::(1,.le 1 1)::l
abbrev qPr5(a0:Rv)(l:List (Nat×P0)):List (Nat×P0):=qE a0.now::qE a0.dr::qE a0.rn::qE a0.rc::qE a0.ne::qE a0.nc::l
abbrev qPr6(a0:Rv)(l:List (Nat×P0)):List (Nat×P0):=qPr2 a0 (qE a0.m.lk::qE a0.m.lc::qE a0.m.lo::qE a0.m.ln::qE a0.m.ct::qPr5 a0 (qPr3 a0 (qF a0.len a0.m.g::l)))
abbrev qPr7(a0:Mm×Fp)(l:List (Nat×P0)):List (Nat×P0):=qE a0.snd.a::qE (i64.wrap (a0.snd.i+O 1))::l
abbrev qPr8(l:List (Nat×P0)):List (Nat×P0):=(2,.lt2 0 1 0 1)::(1,.lt 0 1)::l
theorem vPr_eq(r:Rv)(f:Fp)(cf:Nat)(I1:Int×Int->Prop)(I2:Bool×Int->Prop)(I3:Fp->Prop)(I4:Fp×Int->Prop)(I5:Mm×Fp->Prop)(φ:Rr->Prop):V.pr .z (vPr r f cf I1 I2 I3 I4 I5 φ)=
  nN (qPr6 r (qPr4 cf [qE f.ln,qE f.a,qE f.i,qE f.j,qE f.n,qE f.t])) (V.any Bool (fun (x:Bool)=>True) fun (x:Bool)=>V.br x
 (nN [(3,.lt 0 1)] (V.br (f.ln == O 1)
 (nN [(7,.lt2 0 1 0 1),qE r.dr,qE r.c.W] (U (r.c.W<=O 9223372036854775807) (nN [qX (dr r.dr r.c.W)] (V.any Int (fun (r_1:Int)=>r_1=dr r.dr r.c.W) fun (x:Int)=>nN (qPr8 (qPr8 (qPr8 (qPr8 [])))) (U (I3 (Fp.mk (O 2) f.a f.i (Int.negSucc 0) (Int.negSucc 0) x)) (nN (qPr6 r (qPr4 cf [(1,.eqI 2 2),qE f.a,qE f.i,qE (Int.negSucc 0),qE (Int.negSucc 0),qE x])) V.ok))))))
 (U (I3 f) (nN (qPr6 r (qPr4 cf [qE f.ln,qE f.a,qE f.i,qE f.j,qE f.n,qE f.t])) V.ok))))
 (V.any Fp I3 fun (x:Fp)=>U (I1 (O 0,O 0)) (nN [(2,.eqI 0 0)] (V.any (Int×Int) I1 fun (x_1:Int×Int)=>nN [(4,.lt2 0 1 0 1)] (V.br (decide (x_1.snd<r.c.W))
 (nN [(3,.lt2 0 1 0 1)] (V.br (x_1.snd != x.a) (U (I1 (i64.wrap (x_1.fst+O 1),i64.wrap (x_1.snd+O 1))) (U ((r.c.W-i64.wrap (x_1.snd+O 1)).toNat<(r.c.W-x_1.snd).toNat) (nN [qE (i64.wrap (x_1.fst+O 1))] (nN [qE (i64.wrap (x_1.snd+O 1))] V.ok)))) (U (I1 (x_1.fst,i64.wrap (x_1.snd+O 1))) (U ((r.c.W-i64.wrap (x_1.snd+O 1)).toNat<(r.c.W-x_1.snd).toNat) (nN [qE x_1.fst,qE (i64.wrap (x_1.snd+O 1))] V.ok)))))
 (V.br (x_1.fst == O 0)
 (U (φ (Rr.mk true (O 2) (O 0) r.m x)) (nN (qE true::(1,.eqI 2 2)::(1,.eqI 0 0)::qPr6 r (qPr4 cf [qE x.ln,qE x.a,qE x.i,qE x.j,qE x.n,qE x.t])) V.ok))
 (nN [(10,.lt2 0 1 0 1)] (U (r.c.W≠O 0) (nN (qE ((i64.wrap (x.t+x.i)).tmod r.c.W)::qPr6 r (qPr4 cf [qE x.ln,qE x.a,qE x.i,qE x.j,qE x.n,qE x.t])) (V.any Bool (fun (x:Bool)=>True) fun (x_2:Bool)=>V.br x_2
 (nN [(3,.lt 0 1)] (V.br ((i64.wrap (x.t+x.i)).tmod r.c.W == x.a)
 (nN [(6,.lt 0 1),(10,.lt2 0 1 0 1)] (U (r.c.W≠O 0) (U (I4 ({ x with i:=i64.wrap (x.i+O 1) },(i64.wrap (x.t+i64.wrap (x.i+O 1))).tmod r.c.W)) (nN (qE ((i64.wrap (x.t+i64.wrap (x.i+O 1))).tmod r.c.W)::qPr6 r (qPr4 cf [qE x.ln,qE x.a,qE (i64.wrap (x.i+O 1)),qE x.j,qE x.n,qE x.t])) V.ok))))
 (U (I4 (x,(i64.wrap (x.t+x.i)).tmod r.c.W)) (nN (qE ((i64.wrap (x.t+x.i)).tmod r.c.W)::qPr6 r (qPr4 cf [qE x.ln,qE x.a,qE x.i,qE x.j,qE x.n,qE x.t])) V.ok))))
 (V.any (Fp×Int) I4 fun (x:Fp×Int)=>nN (qPr6 r (qPr4 cf [qE x.fst.ln,qE x.fst.a,qE x.fst.i,qE x.fst.j,qE x.fst.n,qE x.fst.t])) (V.any Bool (fun (x:Bool)=>True) fun (x_3:Bool)=>V.br x_3
 (nN (qPr1 r (qE x.snd::qPr0 (qPr0 []))) (U (okYn r.c.W r.c.L r.c.C r.c.T r.c.D r.c.H) (nN (qE (bmN r.c.W r.c.C r.c.H x.snd)::(2,.eqI 0 0)::qPr6 r (qPr0 (qPr0 (qPr0 (qPr0 [qX (r.m.acc r.len (O 1) (bmN r.c.W r.c.C r.c.H x.snd) (r.m.val r.len (bmN r.c.W r.c.C r.c.H x.snd)))]))))) (V.any Mm (fun (m':Mm)=>m'=r.m.acc r.len (O 1) (bmN r.c.W r.c.C r.c.H x.snd) (r.m.val r.len (bmN r.c.W r.c.C r.c.H x.snd))) fun (x_4:Mm)=>nN [qE (r.m.val r.len (bmN r.c.W r.c.C r.c.H x.snd))] (U (O 0<=r.m.val r.len (bmN r.c.W r.c.C r.c.H x.snd)/\r.m.val r.len (bmN r.c.W r.c.C r.c.H x.snd)<=O 18446744073709551615) (nN [(3,.lt 0 1)] (V.br (decide (hiB (r.m.val r.len (bmN r.c.W r.c.C r.c.H x.snd))>x.fst.n))
 (nN [(6,.lt 0 1)] (U (I5 (x_4,{ x.fst with j:=x.snd,n:=hiB (r.m.val r.len (bmN r.c.W r.c.C r.c.H x.snd)) })) (nN (qPr2 r (qE x_4.lk::qE x_4.lc::qE x_4.lo::qE x_4.ln::qE x_4.ct::qPr5 r (qPr3 r (qF r.len x_4.g::qPr4 cf [qE x.fst.ln,qE x.fst.a,qE x.fst.i,qE x.snd,qE (hiB (r.m.val r.len (bmN r.c.W r.c.C r.c.H x.snd))),qE x.fst.t])))) V.ok)))
 (U (I5 (x_4,x.fst)) (nN (qPr2 r (qE x_4.lk::qE x_4.lc::qE x_4.lo::qE x_4.ln::qE x_4.ct::qPr5 r (qPr3 r (qF r.len x_4.g::qPr4 cf [qE x.fst.ln,qE x.fst.a,qE x.fst.i,qE x.fst.j,qE x.fst.n,qE x.fst.t])))) V.ok)))))))))
 (V.any (Mm×Fp) I5 fun (x:Mm×Fp)=>nN [(9,.lt 0 1)] (U (I2 (false,i64.wrap (x.snd.i+O 1))) (nN [qE false,qE (i64.wrap (x.snd.i+O 1))] (V.any (Bool×Int) I2 fun (x_4:Bool×Int)=>nN [(4,.lt2 0 1 0 1)] (V.br (decide (x_4.snd<r.c.W))
 (V.br x_4.fst (U (I2 (true,i64.wrap (x_4.snd+O 1))) (U ((r.c.W-i64.wrap (x_4.snd+O 1)).toNat<(r.c.W-x_4.snd).toNat) (nN [qE true] (nN [qE (i64.wrap (x_4.snd+O 1))] V.ok)))) (nN [(7,.lt2 0 1 0 1)] (U (r.c.W≠O 0) (nN [(3,.lt2 0 1 0 1)] (U (I2 ((i64.wrap (x.snd.t+x_4.snd)).tmod r.c.W != x.snd.a,i64.wrap (x_4.snd+O 1))) (U ((r.c.W-i64.wrap (x_4.snd+O 1)).toNat<(r.c.W-x_4.snd).toNat) (nN [qE (((i64.wrap (x.snd.t+x_4.snd)).tmod r.c.W != x.snd.a)),qE (i64.wrap (x_4.snd+O 1))] V.ok)))))))
 (V.br x_4.fst
 (U (φ (Rr.mk false (O 0) (O 0) x.fst { x.snd with i:=i64.wrap (x.snd.i+O 1) })) (nN (qE false::(2,.eqI 0 0)::qPr2 r (qE x.fst.lk::qE x.fst.lc::qE x.fst.lo::qE x.fst.ln::qE x.fst.ct::qPr5 r (qPr3 r (qF r.len x.fst.g::qPr4 cf (qE x.snd.ln::qPr7 x [qE x.snd.j,qE x.snd.n,qE x.snd.t]))))) V.ok))
 (nN [(3,.lt 0 1)] (V.br (decide (x.snd.j<O 0))
 (U (φ (Rr.mk true (O 2) (O 0) x.fst { x.snd with i:=i64.wrap (x.snd.i+O 1) })) (nN (qE true::(1,.eqI 2 2)::(1,.eqI 0 0)::qPr2 r (qE x.fst.lk::qE x.fst.lc::qE x.fst.lo::qE x.fst.ln::qE x.fst.ct::qPr5 r (qPr3 r (qF r.len x.fst.g::qPr4 cf (qE x.snd.ln::qPr7 x [qE x.snd.j,qE x.snd.n,qE x.snd.t]))))) V.ok))
 (nN [(6,.lt2 0 1 0 1)] (U (φ (Rr.mk true (O 1) (i64.wrap (i64.wrap (x.snd.j*O 64)+x.snd.n)) x.fst { x.snd with i:=i64.wrap (x.snd.i+O 1) })) (nN (qE true::(1,.eqI 1 1)::qE (i64.wrap (i64.wrap (x.snd.j*O 64)+x.snd.n))::qPr2 r (qE x.fst.lk::qE x.fst.lc::qE x.fst.lo::qE x.fst.ln::qE x.fst.ct::qPr5 r (qPr3 r (qF r.len x.fst.g::qPr4 cf (qE x.snd.ln::qPr7 x [qE x.snd.j,qE x.snd.n,qE x.snd.t]))))) V.ok))))))))))))))))))))))):=by kernel_rfl
def prF1(W d:Int)(f:Fp):Fp:=if f.ln=1 then⟨2,f.a,f.i,-1,-1,dr d W⟩ else f
def othP(W a:Int):Int:=W-(if 0<=a/\a<W then 1 else 0)
def prV(W:Int)(f:Fp):Fp×Int:=if(i64.wrap (f.t+f.i)).tmod W=f.a then(⟨f.ln,f.a,i64.wrap (f.i+1),f.j,f.n,f.t⟩,(i64.wrap (f.t+i64.wrap (f.i+1))).tmod W) else(f,(i64.wrap (f.t+f.i)).tmod W)
def prH(f:Fp)(v h:Int):Fp:=if h>f.n then⟨f.ln,f.a,f.i,v,h,f.t⟩ else f
def prI(f:Fp):Fp:=⟨f.ln,f.a,i64.wrap (f.i+1),f.j,f.n,f.t⟩
def lftP(W:Int)(f:Fp):Prop:=∃k,f.i<=k/\k<W/\(i64.wrap (f.t+k)).tmod W≠f.a
def prO(r:Rv)(f:Fp)(x:Rr):Prop:=
 (othP r.c.W f.a=0/\x=⟨true,2,0,r.m,prF1 r.c.W r.dr f⟩)\/
 (othP r.c.W f.a≠0/\∃g v a m' k,(g,v)=prV r.c.W (prF1 r.c.W r.dr f)/\a=bmN r.c.W r.c.C r.c.H v/\m'=r.m.acc r.len 1 a (r.m.val r.len a)/\k=prI (prH g v (hiB (r.m.val r.len a)))/\
  ((lftP r.c.W k/\x=⟨false,0,0,m',k⟩)\/(¬lftP r.c.W k/\(k.j<0/\x=⟨true,2,0,m',k⟩\/¬k.j<0/\x=⟨true,1,i64.wrap (i64.wrap (k.j*64)+k.n),m',k⟩))))
def relB(W d w:Int)(p:Pr)(A:A16)(f:Fp):Prop:=(p.e=false/\p.co=0/\p.va=0/\p.w=w/\f.a=w)/\(∀j,j<16->0<=A.get j/\A.get j<=18446744073709551615)/\0<=f.i/\
 ((p.b=false/\p.nx=0/\f.ln=1/\f.i=0)\/(p.b=true/\f.ln=2/\p.st=dr d W/\f.t=dr d W/\f.i<=p.nx/\p.nx=nxP (dr d W) f.i w W/\p.nx<W/\(f.j,f.n)=zas A.get W w (dr d W) f.i.toNat))
section
variable {W d w s nx:Int} {p:Pr} {A B:A16} {f:Fp}
theorem nx_own(h:nx<W)(h2:(s+nx) % W=w):nxP s nx w W=nx+1:=by unfold nxP;rw[if_pos ⟨h,h2⟩]
theorem zf7(h:¬(nx<W/\(s+nx) % W=w)):nxP s nx w W=nx:=by unfold nxP;rw[if_neg h]
theorem off_inj(hW:0<W){a b:Int}(ha:0<=a/\a<W)(hb:0<=b/\b<W)(h:(s+a) % W=(s+b) % W):a=b:=by
 have:=chV_inj (n:=W) (s:=s) hW (i:=a.toNat) (j:=b.toNat) (by omega) (by omega) (by
  unfold chV
  rw[show((a.toNat:Nat):Int)=a by omega,show((b.toNat:Nat):Int)=b by omega]
  exact h)
 omega
theorem chRun_lt{A B:Nat->Int}(k:Nat)(h:∀i,i<k->A (chV W s i).toNat=B (chV W s i).toNat):zas A W w s k=zas B W w s k:=by
 induction k with
 | zero=>rfl
 | succ k ih=>
  unfold zas
  rw[ih fun i hi=>h i (by omega),h k (by omega)]
theorem chRun_one{A:Nat->Int}{k:Int}(h0:0<=k)(h:(s+k) % W=w):zas A W w s (k+1).toNat=zas A W w s k.toNat:=by
 rw[show(k+1).toNat=k.toNat+1 by omega]
 refine chRun_own ?_
 unfold chV
 rw[show((k.toNat:Nat):Int)=k by omega]
 exact h
theorem chRun_nx{A:Nat->Int}{k:Int}(h0:0<=k):zas A W w s (nxP s k w W).toNat=zas A W w s k.toNat:=by
 unfold nxP
 split
 ·rename_i h;exact chRun_one h0 h.2
 ·rfl
theorem dr_2(h:0<W):dr (dr d W) W=dr d W:=by
 have:=dr_b (a:=d) (n:=W) (by omega)
 generalize dr d W=s at *
 unfold dr
 rw[if_neg (by omega)]
 exact Int.emod_eq_of_lt this.1 this.2
theorem tm_e(hW:0<W)(hW2:W<=16){a b:Int}(ha:0<=a/\a<=100)(hb:0<=b/\b<=100):(i64.wrap (a+b)).tmod W=(a+b) % W:=by
 rw[w64 (by omega),Int.tmod_eq_emod_of_nonneg (by omega)]
end
theorem pv_step{y:Ly}{n:Nat}{r:Ps}{rv:Rv}{x:Rr}{d w:Int}{p:Pr}{A:A16}{f:Fp}{m:Mm}(hW:1<=y.W/\y.W<=16)(hb:0<=y.bm/\y.bm<=1000)(hw:∀e,0<=m.g e/\m.g e<=18446744073709551615)
  (hc:rv.c.W=y.W) (hm:rv.m=m) (hl:rv.len=n) (hd:rv.dr=d) (hbm:∀v,bmN rv.c.W rv.c.C rv.c.H v=atM v y.W y.bm 1)
  (hR:relB y.W d w p A f) (hP:psO y n d p A m r) (hQ:prO rv f x):
  r.b=x.b/\r.m=x.m/\(r.m=m\/∃a,r.m=m.acc n 1 a (m.val n a))/\(r.b=true->r.p.e=true/\r.p.co=x.c/\r.p.va=x.v)/\(r.b=false->relB y.W d w r.p r.B x.f):=by
 have hM:mW y=y.W:=by show min y.W 16=y.W;omega
 have hdr:=dr_b (a:=d) (n:=y.W) (by omega)
 have hd2:=dr_2 (d:=d) (W:=y.W) (by omega)
 obtain⟨⟨e0,e1,e2,e3,e4⟩,hA,hi0,hcase⟩:=hR
 obtain⟨s,n1,hs,hn1,h1⟩:=hP.2 e0
 clear hP
 unfold prO at hQ
 rw[hc,hm,hl,hd,e4]at hQ
 -- the frame at the start of the line
 have hF:prF1 y.W d f=⟨2,w,f.i,(prF1 y.W d f).j,(prF1 y.W d f).n,dr d y.W⟩/\(prF1 y.W d f).j=(zas A.get y.W w (dr d y.W) f.i.toNat).1/\(prF1 y.W d f).n=(zas A.get y.W w (dr d y.W) f.i.toNat).2/\s=dr d y.W/\f.i<=16/\p.nx=(bif p.b then nxP (dr d y.W) f.i w y.W else 0)/\(p.b=false->f.i=0)/\(p.b=true->p.nx<y.W):=by
  rcases hcase with⟨c1,c2,c3,c4⟩|⟨c1,c2,c3,c4,c5,c6,c7,c8⟩
  ·refine⟨?_,?_,?_,?_,by omega,by rw[c1];exact c2,fun _=>c4,fun h=>by rw[c1]at h;cases h⟩
   ·unfold prF1;rw[if_pos c3,e4]
   ·unfold prF1;rw[if_pos c3,c4];rfl
   ·unfold prF1;rw[if_pos c3,c4];rfl
   ·rw[hs];unfold stP;rw[c1,hM];rfl
  ·have hne:¬f.ln=1:=by omega
   refine⟨?_,?_,?_,?_,by omega,by rw[c1];exact c6,fun h=>(by rw[c1]at h;cases h),fun _=>c7⟩
   ·unfold prF1;rw[if_neg hne]
    obtain⟨f1,f2,f3,f4,f5,f6⟩:=f
    simp only at c2 c4 e4 ⊢
    rw[c2,c4,e4]
   ·unfold prF1;rw[if_neg hne,<-c8]
   ·unfold prF1;rw[if_neg hne,<-c8]
   ·rw[hs];unfold stP;rw[c1];exact c3
 obtain⟨f1,f2,f3,hse,hi16,hnx,hb0,hbT⟩:=hF
 rw[hM,e3,hse]at hn1
 rw[hse]at h1
 rw[hM]at h1
 -- the offset that is looked at
 have hN:n1=nxP (dr d y.W) f.i w y.W:=by
  cases hpb:p.b with
  | false=>
   rw[hpb]at hnx
   have hnx:p.nx=0:=hnx
   rw[hn1,hnx,hb0 hpb]
  | true=>
   rw[hpb]at hnx
   have hnx:p.nx=nxP (dr d y.W) f.i w y.W:=hnx
   have hlt:=hbT hpb
   rw[hn1,zf7,hnx]
   intro q
   by_cases ho:f.i<y.W/\(dr d y.W+f.i) % y.W=w
   ·rw[nx_own ho.1 ho.2]at hnx
    have:=off_inj (W:=y.W) (s:=dr d y.W) (by omega) (a:=p.nx) (b:=f.i) (by omega) (by omega) (by rw[q.2,ho.2])
    omega
   ·rw[zf7 ho]at hnx
    exact ho (by rw[<-hnx];exact q)
 clear hn1
 have hiW:p.b=true->f.i<y.W:=fun hpb=>by
  have h3:=hbT hpb
  rw[hpb]at hnx
  have hnx:p.nx=nxP (dr d y.W) f.i w y.W:=hnx
  have:=nxP_b (st:=dr d y.W) (nx:=f.i) (w:=w) (M:=y.W)
  omega
 have hiW2:f.i<y.W:=by
  cases hpb:p.b with
  | false=>rw[hb0 hpb];omega
  | true=>exact hiW hpb
 have hnb:=nxP_b (st:=dr d y.W) (nx:=f.i) (w:=w) (M:=y.W)
 -- other workers
 have hoth:othP y.W w=0↔y.W<=n1:=by
  unfold othP
  constructor
  ·intro h
   split at h
   ·have hW1:y.W=1:=by omega
    have:n1=f.i+1:=by
     rw[hN]
     refine nx_own hiW2 ?_
     rw[hW1,Int.emod_one];omega
    omega
   ·omega
  ·intro h
   have hi:f.i=y.W-1/\n1=f.i+1:=by omega
   by_cases ho:f.i<y.W/\(dr d y.W+f.i) % y.W=w
   ·have hpb:p.b=false:=by
     cases hpb:p.b with
     | false=>rfl
     | true=>
      have h3:=hbT hpb
      rw[hpb]at hnx
      have hnx:p.nx=nxP (dr d y.W) f.i w y.W:=hnx
      omega
    have:=hb0 hpb
    have hW1:y.W=1:=by omega
    rw[hW1,Int.emod_one]at ho
    rw[if_pos (by omega)]
    omega
   ·rw[zf7 ho]at hN;omega
 rcases hQ with⟨h2,rfl⟩|⟨h20,g,v,a,m',k,hgv,ha,hm',hk,h2⟩
 ·rcases h1 with⟨h1,rfl⟩|⟨h1,-⟩
  ·exact⟨rfl,rfl,.inl rfl,fun _=>⟨rfl,rfl,rfl⟩,fun h=>(by cases h)⟩
  ·have:=hoth.1 h2;omega
 rcases h1 with⟨h1,-⟩|⟨h1,a2,m2,x2,n2,ha2,hm2,hx2,hn2,h1⟩
 ·exact(h20 (hoth.2 h1)).elim
 -- the same worker
 have hvP:vP y (dr d y.W) n1=(dr d y.W+n1) % y.W:=by
  show(i64.wrap (dr d y.W+n1)).tmod (mW y)=_
  rw[hM]
  exact tm_e (by omega) hW.2 (by omega) (by omega)
 have hGV:g=⟨2,w,n1,(prF1 y.W d f).j,(prF1 y.W d f).n,dr d y.W⟩/\v=vP y (dr d y.W) n1:=by
  rw[hvP]
  rw[f1]at hgv
  unfold prV at hgv
  simp only at hgv
  rw[tm_e (by omega) hW.2 (by omega) (by omega)]at hgv
  by_cases ho:(dr d y.W+f.i) % y.W=w
  ·rw[if_pos ho,w64 (n:=f.i+1) (by omega),tm_e (by omega) hW.2 (by omega) (by omega)]at hgv
   rw[nx_own hiW2 ho]at hN
   rw[hN]
   exact⟨congrArg Prod.fst hgv,congrArg Prod.snd hgv⟩
  ·rw[if_neg ho]at hgv
   rw[zf7 (fun q=>ho q.2)]at hN
   rw[hN]
   exact⟨congrArg Prod.fst hgv,congrArg Prod.snd hgv⟩
 obtain⟨rfl,rfl⟩:=hGV
 have hvb:=chV_bd (n:=y.W) (s:=dr d y.W) (by omega) n1.toNat
 have hvn:vP y (dr d y.W) n1=chV y.W (dr d y.W) n1.toNat:=by
  rw[hvP];unfold chV
  rw[show((n1.toNat:Nat):Int)=n1 by omega]
 rw[<-hvn]at hvb
 have hae:a=a2:=by rw[ha,ha2];rw[hc]at hbm;exact hbm _
 subst hae
 have hmm:m2=m':=by rw[hm2,hm'];rfl
 subst hmm
 rw[<-hx2]at hk
 have hxw:0<=x2/\x2<=18446744073709551615:=by
  rw[hx2];unfold Mm.val
  cases inb n a
  ·exact⟨Int.le_refl 0,(by decide:(0:Int)<=18446744073709551615)⟩
  ·exact hw _
 -- what was found so far
 have hnot:¬(dr d y.W+n1) % y.W=w:=by
  intro q
  by_cases ho:f.i<y.W/\(dr d y.W+f.i) % y.W=w
  ·rw[nx_own ho.1 ho.2]at hN
   have:=off_inj (W:=y.W) (s:=dr d y.W) (by omega) (a:=n1) (b:=f.i) (by omega) (by omega) (by rw[q,ho.2])
   omega
  ·rw[zf7 ho]at hN
   exact ho ⟨by omega,by rw[<-hN];exact q⟩
 have hrun1:zas (putA A (vP y (dr d y.W) n1).toNat x2).get y.W w (dr d y.W) n1.toNat=zas A.get y.W w (dr d y.W) f.i.toNat:=by
  rw[hN,chRun_nx hi0]
  refine chRun_lt _ fun i hi=>?_
  have hib:=chV_bd (n:=y.W) (s:=dr d y.W) (by omega) i
  rw[zgu (by omega),if_neg fun q=>?_]
  rw[<-hN]at q
  have:=chV_inj (n:=y.W) (s:=dr d y.W) (by omega) (i:=i) (j:=n1.toNat) (by omega) (by omega) (by rw[<-hvn];omega)
  omega
 have hrun2:zas (putA A (vP y (dr d y.W) n1).toNat x2).get y.W w (dr d y.W) (n1+1).toNat=(k.j,k.n):=by
  rw[show(n1+1).toNat=n1.toNat+1 by omega]
  show zgf w (chV y.W (dr d y.W) n1.toNat) ((putA A (vP y (dr d y.W) n1).toNat x2).get (chV y.W (dr d y.W) n1.toNat).toNat) _=_
  rw[hrun1,<-hvn,zgu (by omega),if_pos rfl,hk]
  unfold zgf prI prH
  rw[hvP]at *
  by_cases hh:hiB x2>(prF1 y.W d f).n
  ·rw[if_pos ⟨hnot,by rw[<-f3];exact hh⟩,if_pos hh]
  ·rw[if_neg fun q=>hh (by rw[f3];exact q.2),if_neg hh]
   show _=((prF1 y.W d f).j,(prF1 y.W d f).n)
   rw[f2,f3]
 have hki:k.i=n1+1/\k.t=dr d y.W/\k.a=w/\k.ln=2:=by
  rw[hk]
  unfold prI prH
  split
  ·exact⟨w64 (by show _<=n1+1/\n1+1<=_;omega),rfl,rfl,rfl⟩
  ·exact⟨w64 (by show _<=n1+1/\n1+1<=_;omega),rfl,rfl,rfl⟩
 have hn2:n2=nxP (dr d y.W) (n1+1) w y.W:=by
  rw[hn2,e3,show i64.wrap (n1+O 1)=n1+1 from w64 (by show _<=n1+1/\n1+1<=_;omega)]
 have hn2b:=nxP_b (st:=dr d y.W) (nx:=n1+1) (w:=w) (M:=y.W)
 have hleft:lftP y.W k↔n2<y.W:=by
  unfold lftP
  rw[hki.1,hki.2.1,hki.2.2.1]
  constructor
  ·rintro⟨q,q1,q2,q3⟩
   rw[tm_e (by omega) hW.2 (by omega) (by omega)]at q3
   by_cases ho:n1+1<y.W/\(dr d y.W+(n1+1)) % y.W=w
   ·rw[nx_own ho.1 ho.2]at hn2
    by_cases hq:q=n1+1
    ·rw[hq]at q3;exact(q3 ho.2).elim
    ·omega
   ·rw[zf7 ho]at hn2
    omega
  ·intro q
   refine⟨n2,by omega,q,?_⟩
   rw[tm_e (by omega) hW.2 (by omega) (by omega)]
   intro q3
   by_cases ho:n1+1<y.W/\(dr d y.W+(n1+1)) % y.W=w
   ·rw[nx_own ho.1 ho.2]at hn2
    have:=off_inj (W:=y.W) (s:=dr d y.W) (by omega) (a:=n2) (b:=n1+1) (by omega) (by omega) (by rw[q3,ho.2])
    omega
   ·rw[zf7 ho]at hn2
    exact ho ⟨by omega,by rw[<-hn2];exact q3⟩
 have hacc:m2=m.acc n 1 a (m.val n a):=hm2
 have hB:∀j,j<16->0<=(putA A (vP y (dr d y.W) n1).toNat x2).get j/\(putA A (vP y (dr d y.W) n1).toNat x2).get j<=18446744073709551615:=fun j hj=>by
  rw[zgu hj]
  split
  ·exact hxw
  ·exact hA j hj
 have hfin:¬n2<y.W->rcP y (putA A (vP y (dr d y.W) n1).toNat x2) p.w (dr d y.W)=(k.j,k.n):=fun q=>by
  show zas _ ((mW y).toNat:Int) _ (dr _ ((mW y).toNat:Int)) (mW y).toNat=_
  rw[hM,show((y.W.toNat:Nat):Int)=y.W by omega,hd2,e3,<-hrun2]
  have hn3:n2=y.W:=by
   by_cases ho:n1+1<y.W/\(dr d y.W+(n1+1)) % y.W=w
   ·rw[nx_own ho.1 ho.2]at hn2;omega
   ·rw[zf7 ho]at hn2;omega
  have:=chRun_nx (W:=y.W) (w:=w) (s:=dr d y.W) (A:=(putA A (vP y (dr d y.W) n1).toNat x2).get) (k:=n1+1) (by omega)
  rw[<-hn2,hn3]at this
  exact this
 rcases h1 with⟨h1,rfl⟩|⟨h1,h1'⟩
 ·rcases h2 with⟨-,rfl⟩|⟨h2,-⟩
  ·refine⟨rfl,rfl,.inr ⟨a,hacc⟩,fun h=>(by cases h),fun _=>⟨⟨e0,e1,e2,e3,hki.2.2.1⟩,hB,by show 0<=k.i;omega,.inr ⟨rfl,hki.2.2.2,rfl,hki.2.1,?_,?_,h1,?_⟩⟩⟩
   ·show k.i<=n2;omega
   ·show n2=nxP _ k.i w y.W;rw[hki.1,hn2]
   ·show(k.j,k.n)=_;rw[hki.1,hrun2]
  ·exact(h2 (hleft.2 h1)).elim
 ·rcases h2 with⟨h2,-⟩|⟨-,h2⟩
  ·have:=hleft.1 h2;omega
  have hf:=hfin (by omega)
  rw[hf]at h1'
  rcases h1' with⟨q1,rfl⟩|⟨q1,rfl⟩
  ·rcases h2 with⟨q2,rfl⟩|⟨q2,rfl⟩
   ·exact⟨rfl,rfl,.inr ⟨a,hacc⟩,fun _=>⟨rfl,rfl,rfl⟩,fun h=>(by cases h)⟩
   ·exact(q2 q1).elim
  ·rcases h2 with⟨q2,rfl⟩|⟨q2,rfl⟩
   ·exact(q1 q2).elim
   ·exact⟨rfl,rfl,.inr ⟨a,hacc⟩,fun _=>⟨rfl,rfl,rfl⟩,fun h=>(by cases h)⟩
def zdg(r:Rv)(f:Fp):Prop:=okYn r.c.W r.c.L r.c.C r.c.T r.c.D r.c.H/\(0<=f.i/\f.i<=100)/\∀e,0<=r.m.g e/\r.m.g e<=18446744073709551615
def xF(r:Rv)(f:Fp):Fp:=prF1 r.c.W r.dr f
def xG(r:Rv)(f:Fp):Fp×Int:=prV r.c.W (xF r f)
def xV(r:Rv)(f:Fp):Int:=r.m.val r.len (bmN r.c.W r.c.C r.c.H (xG r f).2)
def xM(r:Rv)(f:Fp):Mm:=r.m.acc r.len 1 (bmN r.c.W r.c.C r.c.H (xG r f).2) (xV r f)
def xQ(r:Rv)(f:Fp):Fp:=prH (xG r f).1 (xG r f).2 (hiB (xV r f))
def iP1(r:Rv)(f:Fp)(x:Int×Int):Prop:=0<=x.2/\x.2<=r.c.W/\x.1=x.2-(if 0<=f.a/\f.a<x.2 then 1 else 0)
def iP2(r:Rv)(f:Fp)(x:Bool×Int):Prop:=(prI (xQ r f)).i<=x.2/\x.2<=max r.c.W (prI (xQ r f)).i/\(x.1=true↔∃j,(prI (xQ r f)).i<=j/\j<x.2/\(i64.wrap ((prI (xQ r f)).t+j)).tmod r.c.W≠(prI (xQ r f)).a)
def iP3(r:Rv)(f:Fp)(x:Fp):Prop:=x=xF r f
def iP4(r:Rv)(f:Fp)(x:Fp×Int):Prop:=x=xG r f
def iP5(r:Rv)(f:Fp)(x:Mm×Fp):Prop:=x=(xM r f,xQ r f)
section
variable {r:Rv} {f g:Fp} {x y:Int} {p:Int×Int} {q:Bool×Int} {k:Fp×Int} {z:Mm×Fp} {m:Mm}
theorem p_W(h:zdg r f):r.c.W≠O 0:=by have:=h.1.1;show r.c.W≠0;omega
theorem p_Wm(h:zdg r f):r.c.W<=O 9223372036854775807:=by have:=h.1.1;show r.c.W<=9223372036854775807;omega
theorem xF_a:(xF r f).a=f.a:=by unfold xF prF1;split<;>rfl
theorem xF_i:(xF r f).i=f.i:=by unfold xF prF1;split<;>rfl
theorem p_3a(h:(f.ln == O 1)=true)(hx:x=dr r.dr r.c.W):iP3 r f ⟨O 2,f.a,f.i,Int.negSucc 0,Int.negSucc 0,x⟩:=by
 unfold iP3 xF prF1
 have h:f.ln=1:=eq_of_beq h
 rw[if_pos h,hx]
 rfl
theorem p_3b(h:(f.ln == O 1)=false):iP3 r f f:=by
 unfold iP3 xF prF1
 rw[if_neg fun e=>by rw[e]at h;cases h]
theorem p_1z(h:zdg r f):iP1 r f (O 0,O 0):=by
 have:=h.1.1
 refine⟨Int.le_refl 0,by show(0:Int)<=_;omega,?_⟩
 show(0:Int)=0-(if 0<=f.a/\f.a<0 then 1 else 0)
 rw[if_neg (by omega)];rfl
theorem p_1w(h:zdg r f)(hi:iP1 r f p)(hl:decide (p.2<r.c.W)=true):i64.wrap (p.2+O 1)=p.2+1:=by
 have h1:=hi.1
 have h2:=of_decide_eq_true hl
 have h3:=h.1.1
 exact w64 (by show _<=p.2+1/\p.2+1<=_;omega)
theorem p_1y(h:zdg r f)(hi:iP1 r f p)(h3:iP3 r f g)(hl:decide (p.2<r.c.W)=true)(hn:(p.2 != g.a)=true):iP1 r f (i64.wrap (p.1+O 1),i64.wrap (p.2+O 1)):=by
 rw[p_1w h hi hl]
 have hl:=of_decide_eq_true hl
 have hn:p.2≠f.a:=by rw[h3,xF_a]at hn;exact bne_iff_ne.1 hn
 obtain⟨h1,h2,h4⟩:=hi
 have h5:=h.1.1
 have e:i64.wrap (p.1+O 1)=p.1+1:=w64 (by show _<=p.1+1/\p.1+1<=_;split at h4<;>omega)
 rw[e]
 refine⟨by show 0<=p.2+1;omega,by show p.2+1<=_;omega,?_⟩
 show p.1+1=p.2+1-(if 0<=f.a/\f.a<p.2+1 then 1 else 0)
 by_cases hc:0<=f.a/\f.a<p.2
 ·rw[if_pos hc]at h4;rw[if_pos (by omega)];omega
 ·rw[if_neg hc]at h4;rw[if_neg (by omega)];omega
theorem p_1n(h:zdg r f)(hi:iP1 r f p)(h3:iP3 r f g)(hl:decide (p.2<r.c.W)=true)(hn:(p.2 != g.a)=false):iP1 r f (p.1,i64.wrap (p.2+O 1)):=by
 rw[p_1w h hi hl]
 have hl:=of_decide_eq_true hl
 have hn:p.2=f.a:=by rw[h3,xF_a]at hn;simpa using hn
 obtain⟨h1,h2,h4⟩:=hi
 refine⟨by show 0<=p.2+1;omega,by show p.2+1<=_;omega,?_⟩
 show p.1=p.2+1-(if 0<=f.a/\f.a<p.2+1 then 1 else 0)
 rw[if_neg (by omega)]at h4
 rw[if_pos (by omega)]
 omega
theorem p_m{a:Int}(h:zdg r f)(ha:0<=a)(hl:decide (a<r.c.W)=true):(r.c.W-i64.wrap (a+O 1)).toNat<(r.c.W-a).toNat:=by
 have hl:=of_decide_eq_true hl
 have h5:=h.1.1
 rw[show i64.wrap (a+O 1)=a+1 from w64 (by show _<=a+1/\a+1<=_;omega)]
 omega
theorem p_m1(h:zdg r f)(hi:iP1 r f p)(hl:decide (p.2<r.c.W)=true):(r.c.W-i64.wrap (p.2+O 1)).toNat<(r.c.W-p.2).toNat:=p_m h hi.1 hl
theorem p_o(hi:iP1 r f p)(hl:decide (p.2<r.c.W)=false):p.1=othP r.c.W f.a:=by
 have hl:=of_decide_eq_false hl
 obtain⟨h1,h2,h4⟩:=hi
 have e:p.2=r.c.W:=by omega
 rw[h4,e]
 rfl
theorem p_e(h3:iP3 r f g)(hi:iP1 r f p)(hl:decide (p.2<r.c.W)=false)(h0:(p.1 == O 0)=true):prO r f ⟨true,O 2,O 0,r.m,g⟩:=by
 have h0:=eq_of_beq h0
 rw[p_o hi hl]at h0
 exact .inl ⟨h0,by rw[h3];rfl⟩
theorem p_4a(h3:iP3 r f g)(hv:((i64.wrap (g.t+g.i)).tmod r.c.W == g.a)=true):iP4 r f (⟨g.ln,g.a,i64.wrap (g.i+O 1),g.j,g.n,g.t⟩,(i64.wrap (g.t+i64.wrap (g.i+O 1))).tmod r.c.W):=by
 unfold iP3 at h3
 subst h3
 unfold iP4 xG prV
 rw[if_pos (eq_of_beq hv)]
 rfl
theorem p_4b(h3:iP3 r f g)(hv:((i64.wrap (g.t+g.i)).tmod r.c.W == g.a)=false):iP4 r f (g,(i64.wrap (g.t+g.i)).tmod r.c.W):=by
 unfold iP3 at h3
 subst h3
 unfold iP4 xG prV
 rw[if_neg fun e=>by rw[e]at hv;simp at hv]
theorem p_w(h:zdg r f)(a:Int):O 0<=r.m.val r.len a/\r.m.val r.len a<=O 18446744073709551615:=by
 unfold Mm.val
 cases inb r.len a
 ·exact⟨Int.le_refl 0,(by decide:(0:Int)<=18446744073709551615)⟩
 ·exact h.2.2 _
theorem p_5a(h4:iP4 r f k)(hm:m=r.m.acc r.len (O 1) (bmN r.c.W r.c.C r.c.H k.2) (r.m.val r.len (bmN r.c.W r.c.C r.c.H k.2)))(hh:decide (hiB (r.m.val r.len (bmN r.c.W r.c.C r.c.H k.2))>k.1.n)=true):iP5 r f (m,⟨k.1.ln,k.1.a,k.1.i,k.2,hiB (r.m.val r.len (bmN r.c.W r.c.C r.c.H k.2)),k.1.t⟩):=by
 unfold iP4 at h4
 subst h4
 unfold iP5 xM xQ prH xV
 rw[if_pos (of_decide_eq_true hh),hm]
 rfl
theorem p_5b(h4:iP4 r f k)(hm:m=r.m.acc r.len (O 1) (bmN r.c.W r.c.C r.c.H k.2) (r.m.val r.len (bmN r.c.W r.c.C r.c.H k.2)))(hh:decide (hiB (r.m.val r.len (bmN r.c.W r.c.C r.c.H k.2))>k.1.n)=false):iP5 r f (m,k.1):=by
 unfold iP4 at h4
 subst h4
 unfold iP5 xM xQ prH xV
 rw[if_neg (of_decide_eq_false hh),hm]
 rfl
theorem xG_i(h:zdg r f):0<=(xG r f).1.i/\(xG r f).1.i<=101:=by
 have h1:=h.2.1
 unfold xG prV
 rw[xF_i]
 split
 ·show 0<=i64.wrap (f.i+1)/\i64.wrap (f.i+1)<=101
  rw[w64 (by omega)];omega
 ·show 0<=(xF r f).i/\(xF r f).i<=101
  rw[xF_i];omega
theorem xQ_i(h:zdg r f):0<=(prI (xQ r f)).i/\(prI (xQ r f)).i<=102:=by
 have h1:=xG_i h
 have e:(xQ r f).i=(xG r f).1.i:=by unfold xQ prH;split<;>rfl
 show 0<=i64.wrap ((xQ r f).i+1)/\i64.wrap ((xQ r f).i+1)<=102
 rw[e,w64 (by omega)]
 omega
theorem p_a1{a b:Int}(h:a<=b):a<=b+1:=by omega
theorem p_a2{a b c:Int}(h:a<b):a+1<=max b c:=by omega
theorem p_a3{a b:Int}(h:a<b):a<b+1:=by omega
theorem p_a4{a:Int}:a<a+1:=by omega
theorem p_a5{a b:Int}(h:a<b+1)(hn:¬a=b):a<b:=by omega
theorem p_a6{a b c i:Int}(h:a<=max b i)(hi:i<=c)(hc:c<a):c<b:=by omega
theorem p_a7{a b c:Int}(h:¬a<b)(hc:c<b):c<a:=by omega
theorem p_2z(h5:iP5 r f z):iP2 r f (false,i64.wrap (z.2.i+O 1)):=by
 unfold iP5 at h5
 subst h5
 refine⟨Int.le_refl _,Int.le_max_right _ _,⟨fun q=>(by cases q),fun ⟨j,j1,j2,j3⟩=>?_⟩⟩
 have j1:(prI (xQ r f)).i<=j:=j1
 have j2:j<(prI (xQ r f)).i:=j2
 omega
theorem p_2w(h:zdg r f)(hi:iP2 r f q)(hl:decide (q.2<r.c.W)=true):i64.wrap (q.2+O 1)=q.2+1:=by
 have h1:=hi.1
 have h2:=of_decide_eq_true hl
 have h3:=h.1.1
 have h4:=xQ_i h
 exact w64 (by show _<=q.2+1/\q.2+1<=_;omega)
theorem p_2t(h:zdg r f)(hi:iP2 r f q)(hl:decide (q.2<r.c.W)=true)(hb:q.1=true):iP2 r f (true,i64.wrap (q.2+O 1)):=by
 rw[p_2w h hi hl]
 have h2:=of_decide_eq_true hl
 obtain⟨i1,i2,i3⟩:=hi
 obtain⟨j,j1,j2,j3⟩:=i3.1 hb
 exact⟨p_a1 i1,p_a2 h2,⟨fun _=>⟨j,j1,p_a3 j2,j3⟩,fun _=>rfl⟩⟩
theorem p_2n(h:zdg r f)(h5:iP5 r f z)(hi:iP2 r f q)(hl:decide (q.2<r.c.W)=true)(hb:q.1=false):iP2 r f ((i64.wrap (z.2.t+q.2)).tmod r.c.W != z.2.a,i64.wrap (q.2+O 1)):=by
 rw[p_2w h hi hl]
 have h2:=of_decide_eq_true hl
 unfold iP5 at h5
 subst h5
 obtain⟨i1,i2,i3⟩:=hi
 refine⟨p_a1 i1,p_a2 h2,⟨fun e=>⟨q.2,i1,p_a4,bne_iff_ne.1 e⟩,fun ⟨j,j1,j2,j3⟩=>?_⟩⟩
 have j2:j<q.2+1:=j2
 by_cases hj:j=q.2
 ·rw[hj]at j3;exact bne_iff_ne.2 j3
 ·have:=i3.2 ⟨j,j1,p_a5 j2 hj,j3⟩
  rw[hb]at this;cases this
theorem p_m2(h:zdg r f)(hi:iP2 r f q)(hl:decide (q.2<r.c.W)=true):(r.c.W-i64.wrap (q.2+O 1)).toNat<(r.c.W-q.2).toNat:=p_m h (by have:=hi.1;have:=xQ_i h;omega) hl
theorem p_lf(hi:iP2 r f q)(hl:decide (q.2<r.c.W)=false):q.1=true↔lftP r.c.W (prI (xQ r f)):=by
 have hl:=of_decide_eq_false hl
 obtain⟨i1,i2,i3⟩:=hi
 rw[i3]
 constructor
 ·rintro⟨j,j1,j2,j3⟩
  exact⟨j,j1,p_a6 i2 j1 j2,j3⟩
 ·rintro⟨j,j1,j2,j3⟩
  exact⟨j,j1,p_a7 hl j2,j3⟩
theorem p_n0(h1:iP1 r f p)(hl:decide (p.2<r.c.W)=false)(h0:(p.1 == O 0)=false):othP r.c.W f.a≠0:=fun e=>by
 rw[p_o h1 hl,e]at h0;cases h0
theorem p_l1(h1:iP1 r f p)(hl:decide (p.2<r.c.W)=false)(h0:(p.1 == O 0)=false)(h5:iP5 r f z)(hi:iP2 r f q)(hl2:decide (q.2<r.c.W)=false)(hb:q.1=true):prO r f ⟨false,O 0,O 0,z.1,⟨z.2.ln,z.2.a,i64.wrap (z.2.i+O 1),z.2.j,z.2.n,z.2.t⟩⟩:=by
 unfold iP5 at h5
 subst h5
 exact .inr ⟨p_n0 h1 hl h0,(xG r f).1,(xG r f).2,_,_,_,rfl,rfl,rfl,rfl,.inl ⟨(p_lf hi hl2).1 hb,rfl⟩⟩
theorem p_l2(h1:iP1 r f p)(hl:decide (p.2<r.c.W)=false)(h0:(p.1 == O 0)=false)(h5:iP5 r f z)(hi:iP2 r f q)(hl2:decide (q.2<r.c.W)=false)(hb:q.1=false)(hj:decide (z.2.j<O 0)=true):prO r f ⟨true,O 2,O 0,z.1,⟨z.2.ln,z.2.a,i64.wrap (z.2.i+O 1),z.2.j,z.2.n,z.2.t⟩⟩:=by
 unfold iP5 at h5
 subst h5
 exact .inr ⟨p_n0 h1 hl h0,(xG r f).1,(xG r f).2,_,_,_,rfl,rfl,rfl,rfl,.inr ⟨fun e=>(by rw[(p_lf hi hl2).2 e]at hb;cases hb),.inl ⟨of_decide_eq_true hj,rfl⟩⟩⟩
theorem p_l3(h1:iP1 r f p)(hl:decide (p.2<r.c.W)=false)(h0:(p.1 == O 0)=false)(h5:iP5 r f z)(hi:iP2 r f q)(hl2:decide (q.2<r.c.W)=false)(hb:q.1=false)(hj:decide (z.2.j<O 0)=false):prO r f ⟨true,O 1,i64.wrap (i64.wrap (z.2.j*O 64)+z.2.n),z.1,⟨z.2.ln,z.2.a,i64.wrap (z.2.i+O 1),z.2.j,z.2.n,z.2.t⟩⟩:=by
 unfold iP5 at h5
 subst h5
 exact .inr ⟨p_n0 h1 hl h0,(xG r f).1,(xG r f).2,_,_,_,rfl,rfl,rfl,rfl,.inr ⟨fun e=>(by rw[(p_lf hi hl2).2 e]at hb;cases hb),.inr ⟨of_decide_eq_false hj,rfl⟩⟩⟩
end
theorem vhPr{r:Rv}{f:Fp}{cf:Nat}(h:zdg r f):zad (vPr r f cf (iP1 r f) (iP2 r f) (iP3 r f) (iP4 r f) (iP5 r f) (prO r f)):=by
 refine zad.pr (vPr_eq ..) ?_
 (with_reducible repeat' first|exact V.okI|refine V.brT ?_|refine V.brF ?_|refine V.brI ?_ ?_|refine V.anyI ?_|refine nN_h rfl ?_|refine V.needI ?_ ?_|intro _)
 all_goals first
  | exact True.intro
  | with_reducible exact p_Wm h
  | with_reducible exact p_W h
  | exact h.1
  | with_reducible exact p_w h _
  | with_reducible exact p_3a ‹_› ‹_›
  | with_reducible exact p_3b ‹_›
  | with_reducible exact p_1z h
  | with_reducible exact p_1y h ‹_› ‹_› ‹_› ‹_›
  | with_reducible exact p_1n h ‹_› ‹_› ‹_› ‹_›
  | with_reducible exact p_m1 h ‹_› ‹_›
  | with_reducible exact p_e ‹_› ‹_› ‹_› ‹_›
  | with_reducible exact p_4a ‹_› ‹_›
  | with_reducible exact p_4b ‹_› ‹_›
  | with_reducible exact p_5a ‹_› ‹_› ‹_›
  | with_reducible exact p_5b ‹_› ‹_› ‹_›
  | with_reducible exact p_2z ‹_›
  | with_reducible exact p_2t h ‹_› ‹_› ‹_›
  | with_reducible exact p_2n h ‹_› ‹_› ‹_› ‹_›
  | with_reducible exact p_m2 h ‹_› ‹_›
  | with_reducible exact p_l1 ‹_› ‹_› ‹_› ‹_› ‹_› ‹_› ‹_›
  | with_reducible exact p_l2 ‹_› ‹_› ‹_› ‹_› ‹_› ‹_› ‹_› ‹_›
  | with_reducible exact p_l3 ‹_› ‹_› ‹_› ‹_› ‹_› ‹_› ‹_› ‹_›
  | rfl
  | trace_state
noncomputable section
def outPr(r:Rv)(f:Fp)(cf:Nat):Out (SV×Hp):=.need (zdg r f) (.any Rr (prO r f) fun x=>.leaf (svRr x,⟨(r.W x.m).h2++[(6,fpB cf x.f)],7,fun _=>True⟩))
def capR(b:Option Blk):Option Nat:=match b with
 | some (.row _ c _ _)=>some c
 | _=>none
def cRp:List SV->Hp->Out (SV×Hp):=fun args H=>match args with
 | [.c (.ptr kr _ _ _ _),.c (.ptr kf _ _ _ _)]=>fN kr fun kr=>fN kf fun kf=>match rdRv kr H.h,rdFp (find kf H.h),capR (find kf H.h) with
  | some (r,σ),some f,some cf=>useP (σ++[kf]) 7 argPr (hPr r f cf) (outPr r f cf) args H
  | _,_,_=>.bad 438
 | _=>.bad 439
theorem cRp_ok:zab P fRpb cRp:=zac fun args H=>by
 unfold cRp
 simp only[fN_eq]
 repeat' split
 all_goals first|exact .inl ⟨_,rfl⟩|exact .inr ⟨_,_,_,_,_,rfl,zae conPr_ok fun h=>vhPr h⟩
end
end Go.Proofs.YtabiechfpefjhaaGreat.En
