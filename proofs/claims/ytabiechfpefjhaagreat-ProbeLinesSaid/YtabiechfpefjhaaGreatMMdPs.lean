/- A part of the proof. -/
import Derived.Test.YtabiechfpefjhaaGreatMMdPsD
import Derived.Test.YtabiechfpefjhaaGreatMW
import Derived.Test.YtabiechfpefjhaaGreatMV
import Derived.Test.YtabiechfpefjhaaGreatMMd
import Derived.Test.YtabiechfpefjhaaGreatMMdLo
set_option maxHeartbeats 64000000
set_option linter.unusedVariables false
set_option linter.unusedSimpArgs false
set_option maxRecDepth 100000
open Go.IntKind (i64 u64)
open Int renaming ofNat -> O
open Go.Proofs.YtabiechfpefjhaaGreat.Sx.V renaming need -> U
namespace Go.Proofs.YtabiechfpefjhaaGreat.Md
open Go Go.RowKit Sx Cn Dc Ck Vc
abbrev qPs0(a0:Pr)(a1:Int)(a2:Ly)(a3:Int)(a4:A16)(k:V):V:=U ((if((i64.wrap (a0.st+a1)).tmod (min a2.W (O 16))).toNat=10 then a3 else a4.a10)=if((i64.wrap (a0.st+a1)).tmod (min a2.W (O 16))).toNat=10 then a3 else a4.a10) (U ((if((i64.wrap (a0.st+a1)).tmod (min a2.W (O 16))).toNat=11 then a3 else a4.a11)=if((i64.wrap (a0.st+a1)).tmod (min a2.W (O 16))).toNat=11 then a3 else a4.a11) k)
abbrev qPs1(a0:Pr)(a1:Int)(a2:Ly)(a3:Int)(a4:A16)(k:V):V:=U ((if((i64.wrap (a0.st+a1)).tmod (min a2.W (O 16))).toNat=12 then a3 else a4.a12)=if((i64.wrap (a0.st+a1)).tmod (min a2.W (O 16))).toNat=12 then a3 else a4.a12) (U ((if((i64.wrap (a0.st+a1)).tmod (min a2.W (O 16))).toNat=13 then a3 else a4.a13)=if((i64.wrap (a0.st+a1)).tmod (min a2.W (O 16))).toNat=13 then a3 else a4.a13) k)
abbrev qPs2(a0:Pr)(a1:Int)(a2:Ly)(a3:Int)(a4:A16)(k:V):V:=U ((if((i64.wrap (a0.st+a1)).tmod (min a2.W (O 16))).toNat=14 then a3 else a4.a14)=if((i64.wrap (a0.st+a1)).tmod (min a2.W (O 16))).toNat=14 then a3 else a4.a14) (U ((if((i64.wrap (a0.st+a1)).tmod (min a2.W (O 16))).toNat=15 then a3 else a4.a15)=if((i64.wrap (a0.st+a1)).tmod (min a2.W (O 16))).toNat=15 then a3 else a4.a15) k)
abbrev qPs3(a0 a1:Int)(a2:Ly)(a3:Int)(a4:A16)(k:V):V:=U ((if((i64.wrap (a0+a1)).tmod (min a2.W (O 16))).toNat=10 then a3 else a4.a10)=if((i64.wrap (a0+a1)).tmod (min a2.W (O 16))).toNat=10 then a3 else a4.a10) (U ((if((i64.wrap (a0+a1)).tmod (min a2.W (O 16))).toNat=11 then a3 else a4.a11)=if((i64.wrap (a0+a1)).tmod (min a2.W (O 16))).toNat=11 then a3 else a4.a11) k)
abbrev qPs4(a0 a1:Int)(a2:Ly)(a3:Int)(a4:A16)(k:V):V:=U ((if((i64.wrap (a0+a1)).tmod (min a2.W (O 16))).toNat=12 then a3 else a4.a12)=if((i64.wrap (a0+a1)).tmod (min a2.W (O 16))).toNat=12 then a3 else a4.a12) (U ((if((i64.wrap (a0+a1)).tmod (min a2.W (O 16))).toNat=13 then a3 else a4.a13)=if((i64.wrap (a0+a1)).tmod (min a2.W (O 16))).toNat=13 then a3 else a4.a13) k)
abbrev qPs5(a0 a1:Int)(a2:Ly)(a3:Int)(a4:A16)(k:V):V:=U ((if((i64.wrap (a0+a1)).tmod (min a2.W (O 16))).toNat=14 then a3 else a4.a14)=if((i64.wrap (a0+a1)).tmod (min a2.W (O 16))).toNat=14 then a3 else a4.a14) (U ((if((i64.wrap (a0+a1)).tmod (min a2.W (O 16))).toNat=15 then a3 else a4.a15)=if((i64.wrap (a0+a1)).tmod (min a2.W (O 16))).toNat=15 then a3 else a4.a15) k)
abbrev qPs6(a0:Pr)(a1:Int)(a2:Ly)(a3:Int)(a4:A16)(k:V):V:=U ((if((i64.wrap (a0.st+a1)).tmod (min a2.W (O 16))).toNat=0 then a3 else a4.a0)=if((i64.wrap (a0.st+a1)).tmod (min a2.W (O 16))).toNat=0 then a3 else a4.a0) (U ((if((i64.wrap (a0.st+a1)).tmod (min a2.W (O 16))).toNat=1 then a3 else a4.a1)=if((i64.wrap (a0.st+a1)).tmod (min a2.W (O 16))).toNat=1 then a3 else a4.a1) k)
abbrev qPs7(a0:Pr)(a1:Int)(a2:Ly)(a3:Int)(a4:A16)(k:V):V:=U ((if((i64.wrap (a0.st+a1)).tmod (min a2.W (O 16))).toNat=2 then a3 else a4.a2)=if((i64.wrap (a0.st+a1)).tmod (min a2.W (O 16))).toNat=2 then a3 else a4.a2) (U ((if((i64.wrap (a0.st+a1)).tmod (min a2.W (O 16))).toNat=3 then a3 else a4.a3)=if((i64.wrap (a0.st+a1)).tmod (min a2.W (O 16))).toNat=3 then a3 else a4.a3) k)
abbrev qPs8(a0:Pr)(a1:Int)(a2:Ly)(a3:Int)(a4:A16)(k:V):V:=U ((if((i64.wrap (a0.st+a1)).tmod (min a2.W (O 16))).toNat=4 then a3 else a4.a4)=if((i64.wrap (a0.st+a1)).tmod (min a2.W (O 16))).toNat=4 then a3 else a4.a4) (U ((if((i64.wrap (a0.st+a1)).tmod (min a2.W (O 16))).toNat=5 then a3 else a4.a5)=if((i64.wrap (a0.st+a1)).tmod (min a2.W (O 16))).toNat=5 then a3 else a4.a5) k)
abbrev qPs9(a0:Pr)(a1:Int)(a2:Ly)(a3:Int)(a4:A16)(k:V):V:=U ((if((i64.wrap (a0.st+a1)).tmod (min a2.W (O 16))).toNat=6 then a3 else a4.a6)=if((i64.wrap (a0.st+a1)).tmod (min a2.W (O 16))).toNat=6 then a3 else a4.a6) (U ((if((i64.wrap (a0.st+a1)).tmod (min a2.W (O 16))).toNat=7 then a3 else a4.a7)=if((i64.wrap (a0.st+a1)).tmod (min a2.W (O 16))).toNat=7 then a3 else a4.a7) k)
abbrev qPs10(a0:Pr)(a1:Int)(a2:Ly)(a3:Int)(a4:A16)(k:V):V:=U ((if((i64.wrap (a0.st+a1)).tmod (min a2.W (O 16))).toNat=8 then a3 else a4.a8)=if((i64.wrap (a0.st+a1)).tmod (min a2.W (O 16))).toNat=8 then a3 else a4.a8) (U ((if((i64.wrap (a0.st+a1)).tmod (min a2.W (O 16))).toNat=9 then a3 else a4.a9)=if((i64.wrap (a0.st+a1)).tmod (min a2.W (O 16))).toNat=9 then a3 else a4.a9) k)
abbrev qPs11(a0 a1:Int)(a2:Ly)(a3:Int)(a4:A16)(k:V):V:=U ((if((i64.wrap (a0+a1)).tmod (min a2.W (O 16))).toNat=0 then a3 else a4.a0)=if((i64.wrap (a0+a1)).tmod (min a2.W (O 16))).toNat=0 then a3 else a4.a0) (U ((if((i64.wrap (a0+a1)).tmod (min a2.W (O 16))).toNat=1 then a3 else a4.a1)=if((i64.wrap (a0+a1)).tmod (min a2.W (O 16))).toNat=1 then a3 else a4.a1) k)
abbrev qPs12(a0 a1:Int)(a2:Ly)(a3:Int)(a4:A16)(k:V):V:=U ((if((i64.wrap (a0+a1)).tmod (min a2.W (O 16))).toNat=2 then a3 else a4.a2)=if((i64.wrap (a0+a1)).tmod (min a2.W (O 16))).toNat=2 then a3 else a4.a2) (U ((if((i64.wrap (a0+a1)).tmod (min a2.W (O 16))).toNat=3 then a3 else a4.a3)=if((i64.wrap (a0+a1)).tmod (min a2.W (O 16))).toNat=3 then a3 else a4.a3) k)
abbrev qPs13(a0 a1:Int)(a2:Ly)(a3:Int)(a4:A16)(k:V):V:=U ((if((i64.wrap (a0+a1)).tmod (min a2.W (O 16))).toNat=4 then a3 else a4.a4)=if((i64.wrap (a0+a1)).tmod (min a2.W (O 16))).toNat=4 then a3 else a4.a4) (U ((if((i64.wrap (a0+a1)).tmod (min a2.W (O 16))).toNat=5 then a3 else a4.a5)=if((i64.wrap (a0+a1)).tmod (min a2.W (O 16))).toNat=5 then a3 else a4.a5) k)
abbrev qPs14(a0 a1:Int)(a2:Ly)(a3:Int)(a4:A16)(k:V):V:=U ((if((i64.wrap (a0+a1)).tmod (min a2.W (O 16))).toNat=6 then a3 else a4.a6)=if((i64.wrap (a0+a1)).tmod (min a2.W (O 16))).toNat=6 then a3 else a4.a6) (U ((if((i64.wrap (a0+a1)).tmod (min a2.W (O 16))).toNat=7 then a3 else a4.a7)=if((i64.wrap (a0+a1)).tmod (min a2.W (O 16))).toNat=7 then a3 else a4.a7) k)
abbrev qPs15(a0 a1:Int)(a2:Ly)(a3:Int)(a4:A16)(k:V):V:=U ((if((i64.wrap (a0+a1)).tmod (min a2.W (O 16))).toNat=8 then a3 else a4.a8)=if((i64.wrap (a0+a1)).tmod (min a2.W (O 16))).toNat=8 then a3 else a4.a8) (U ((if((i64.wrap (a0+a1)).tmod (min a2.W (O 16))).toNat=9 then a3 else a4.a9)=if((i64.wrap (a0+a1)).tmod (min a2.W (O 16))).toNat=9 then a3 else a4.a9) k)
abbrev qPs16(a0:Ly)(k:V):V:=nN [(2,.lt2 0 1 0 1)] (U (O 0<=min a0.W (O 16)/\min a0.W (O 16)<=(↑16:Int)) k)
abbrev qPs17(a0:Mm)(l:List (Nat×P0)):List (Nat×P0):=qE a0.lk::qE a0.lc::qE a0.lo::qE a0.ln::qE a0.ct::l
abbrev qPs18(a0:Pr)(l:List (Nat×P0)):List (Nat×P0):=qE a0.e::qE a0.co::qE a0.va::qE a0.w::l
abbrev qPs19(l:List (Nat×P0)):List (Nat×P0):=(1,.eqI 2 2)::(1,.eqI 0 0)::l
abbrev qPs20(a0:Ly)(a1:Pr)(l:List (Nat×P0)):List (Nat×P0):=qE (min a0.W (O 16))::qPs18 a1 l
abbrev qPss0(x:Int)(x_1:Int)(y:Ly)(x_4:Int)(B:A16)(n:Nat)(cap:Nat)(x_3:Mm):V:=
 qPs11 x x_1 y x_4 B (qPs12 x x_1 y x_4 B (qPs13 x x_1 y x_4 B (qPs14 x x_1 y x_4 B (qPs15 x x_1 y x_4 B (qPs3 x x_1 y x_4 B (qPs4 x x_1 y x_4 B (qPs5 x x_1 y x_4 B (nN (qE n::qE cap::qPs17 x_3 [qE cap,qL n,qF n x_3.g]) V.ok))))))))
abbrev qPss1(p:Pr)(x:Int)(y:Ly)(x_3:Int)(B:A16)(n:Nat)(cap:Nat)(x_2:Mm):V:=
 qPs6 p x y x_3 B (qPs7 p x y x_3 B (qPs8 p x y x_3 B (qPs9 p x y x_3 B (qPs10 p x y x_3 B (qPs0 p x y x_3 B (qPs1 p x y x_3 B (qPs2 p x y x_3 B (nN (qE n::qE cap::qPs17 x_2 [qE cap,qL n,qF n x_2.g]) V.ok))))))))
abbrev qPss2(p:Pr)(W:Int)(B:A16):V:=
 U (p.nx=nxP p.st p.nx p.w W) (nN (qE (decide (p.nx >= W))::qPs18 p [qE p.b,qE p.st,qE p.nx,qE B.a0,qE B.a1,qE B.a2,qE B.a3,qE B.a4,qE B.a5,qE B.a6,qE B.a7,qE B.a8,qE B.a9,qE B.a10,qE B.a11,qE B.a12,qE B.a13,qE B.a14,qE B.a15]) V.ok)
theorem vDw_eq(d n:Int):V.pr .z (vDw d n)=
 V.br (decide (n<O 1)) (U (O 0=dr d n) (nN [(1,.eqI 0 0)] V.ok)) (nN [(3,.lt2 0 1 0 1)] (U (n≠O 0) (V.br (decide (d.tmod n<O 0)) (U (i64.wrap (d.tmod n+n)=dr d n) (nN [qE (i64.wrap (d.tmod n+n))] V.ok)) (U (d.tmod n=dr d n) (nN [qE (d.tmod n)] V.ok))))):=by kernel_rfl
theorem vPa_eq(p:Pr)(B:A16)(W:Int):V.pr .z (vPa p B W)=
  nN [(3,.lt2 0 1 0 1)] (V.br (decide (p.nx<W))
 (nN [(6,.lt2 0 1 0 1)] (U (W≠O 0) (nN [(3,.lt2 0 1 0 1)] (V.br ((i64.wrap (p.st+p.nx)).tmod W == p.w)
 (U (i64.wrap (p.nx+O 1)=nxP p.st p.nx p.w W) (nN (qE (decide (i64.wrap (p.nx+O 1) >= W))::qPs18 p [qE p.b,qE p.st,qE (i64.wrap (p.nx+O 1)),qE B.a0,qE B.a1,qE B.a2,qE B.a3,qE B.a4,qE B.a5,qE B.a6,qE B.a7,qE B.a8,qE B.a9,qE B.a10,qE B.a11,qE B.a12,qE B.a13,qE B.a14,qE B.a15]) V.ok))
 (qPss2 p W B)))))
 (qPss2 p W B)):=by kernel_rfl
theorem vPs_eq(y:Ly)(n cap:Nat)(dr0:Int)(p:Pr)(B:A16)(m:Mm)(φ:Ps->Prop):V.pr .z (vPs y n cap dr0 p B m φ)=
  V.br p.e
 (U (φ (Ps.mk true p B m)) (nN (qE true::qPs18 p (qE p.b::qE p.st::qE p.nx::qE B.a0::qE B.a1::qE B.a2::qE B.a3::qE B.a4::qE B.a5::qE B.a6::qE B.a7::qE B.a8::qE B.a9::qE B.a10::qE B.a11::qE B.a12::qE B.a13::qE B.a14::qE B.a15::qE n::qE cap::qPs17 m [qE cap,qL n,qF n m.g])) V.ok))
 (nN [(4,.lt2 0 1 0 1)] (V.br (!p.b)
 (nN [(3,.lt2 0 1 0 1),qE (min y.W (O 16)),(1,.le 1 1),(1,.pf (∀(i:Nat),i<1->1<=1) (by intros;exact Nat.le_refl _)),qE dr0] (U (min y.W (O 16)<=O 9223372036854775807) (nN [qX (dr dr0 (min y.W (O 16)))] (V.any Int (fun (r:Int)=>r=dr dr0 (min y.W (O 16))) fun (x:Int)=>nN (qPs20 y p [qE true,qE x,qE p.nx,qE B.a0,qE B.a1,qE B.a2,qE B.a3,qE B.a4,qE B.a5,qE B.a6,qE B.a7,qE B.a8,qE B.a9,qE B.a10,qE B.a11,qE B.a12,qE B.a13,qE B.a14,qE B.a15]) (U (okPa { p with b:=true,st:=x } (min y.W (O 16))) (nN [qX (nxP x p.nx p.w (min y.W (O 16)))] (V.any Int (fun (q:Int)=>q=nxP x p.nx p.w (min y.W (O 16))) fun (x_1:Int)=>V.br (decide (x_1 >= min y.W (O 16)))
 (U (φ (Ps.mk true (Pr.mk true (O 2) (O 0) p.w true x x_1) B m)) (nN (qE true::qE true::qPs19 (qE p.w::qE true::qE x::qE x_1::qE B.a0::qE B.a1::qE B.a2::qE B.a3::qE B.a4::qE B.a5::qE B.a6::qE B.a7::qE B.a8::qE B.a9::qE B.a10::qE B.a11::qE B.a12::qE B.a13::qE B.a14::qE B.a15::qE n::qE cap::qPs17 m [qE cap,qL n,qF n m.g])) V.ok))
 (nN [(6,.lt2 0 1 0 1)] (U (min y.W (O 16)≠O 0) (nN [(16,.lt2 0 1 0 1),qE ((i64.wrap (x+x_1)).tmod (min y.W (O 16))),qE y.W,qE y.bm,(1,.eqI 1 1)] (U (okAtT ((i64.wrap (x+x_1)).tmod (min y.W (O 16))) y.W y.bm (O 1)) (nN [qX (atM ((i64.wrap (x+x_1)).tmod (min y.W (O 16))) y.W y.bm (O 1))] (V.any Int (fun (r:Int)=>r=atM ((i64.wrap (x+x_1)).tmod (min y.W (O 16))) y.W y.bm (O 1)) fun (x_2:Int)=>nN (qE x_2::qE n::qE cap::qPs17 m [qE cap,qL n,qF n m.g,qX (m.acc n (O 1) x_2 (m.val n x_2))]) (V.any Mm (fun (m':Mm)=>m'=m.acc n (O 1) x_2 (m.val n x_2)) fun (x_3:Mm)=>nN [qX (m.val n x_2)] (V.any Int (fun (v:Int)=>v=m.val n x_2) fun (x_4:Int)=>nN [(2,.lt2 0 1 0 1)] (U (O 0<=(i64.wrap (x+x_1)).tmod (min y.W (O 16))/\(i64.wrap (x+x_1)).tmod (min y.W (O 16))<(↑16:Int)) (nN [(1,.lt2 0 1 0 1)] (U (((i64.wrap (x+x_1)).tmod (min y.W (O 16))).toNat < [B.a0,B.a1,B.a2,B.a3,B.a4,B.a5,B.a6,B.a7,B.a8,B.a9,B.a10,B.a11,B.a12,B.a13,B.a14,B.a15].length) (nN (qPs20 y p [qE true,qE x,qE (i64.wrap (x_1+O 1))]) (qPs11 x x_1 y x_4 B (qPs12 x x_1 y x_4 B (qPs13 x x_1 y x_4 B (qPs14 x x_1 y x_4 B (qPs15 x x_1 y x_4 B (qPs3 x x_1 y x_4 B (qPs4 x x_1 y x_4 B (qPs5 x x_1 y x_4 B (U (okPa (Pr.mk p.e p.co p.va p.w true x (i64.wrap (x_1+O 1))) (min y.W (O 16))) (nN [qX (nxP x (i64.wrap (x_1+O 1)) p.w (min y.W (O 16)))] (V.any Int (fun (q:Int)=>q=nxP x (i64.wrap (x_1+O 1)) p.w (min y.W (O 16))) fun (x_5:Int)=>V.br (!decide (x_5 >= min y.W (O 16)))
 (U (φ (Ps.mk false (Pr.mk p.e p.co p.va p.w true x x_5) (A16.mk (if((i64.wrap (x+x_1)).tmod (min y.W (O 16))).toNat=0 then x_4 else B.a0) (if((i64.wrap (x+x_1)).tmod (min y.W (O 16))).toNat=1 then x_4 else B.a1) (if((i64.wrap (x+x_1)).tmod (min y.W (O 16))).toNat=2 then x_4 else B.a2) (if((i64.wrap (x+x_1)).tmod (min y.W (O 16))).toNat=3 then x_4 else B.a3) (if((i64.wrap (x+x_1)).tmod (min y.W (O 16))).toNat=4 then x_4 else B.a4) (if((i64.wrap (x+x_1)).tmod (min y.W (O 16))).toNat=5 then x_4 else B.a5) (if((i64.wrap (x+x_1)).tmod (min y.W (O 16))).toNat=6 then x_4 else B.a6) (if((i64.wrap (x+x_1)).tmod (min y.W (O 16))).toNat=7 then x_4 else B.a7) (if((i64.wrap (x+x_1)).tmod (min y.W (O 16))).toNat=8 then x_4 else B.a8) (if((i64.wrap (x+x_1)).tmod (min y.W (O 16))).toNat=9 then x_4 else B.a9) (if((i64.wrap (x+x_1)).tmod (min y.W (O 16))).toNat=10 then x_4 else B.a10) (if((i64.wrap (x+x_1)).tmod (min y.W (O 16))).toNat=11 then x_4 else B.a11) (if((i64.wrap (x+x_1)).tmod (min y.W (O 16))).toNat=12 then x_4 else B.a12) (if((i64.wrap (x+x_1)).tmod (min y.W (O 16))).toNat=13 then x_4 else B.a13) (if((i64.wrap (x+x_1)).tmod (min y.W (O 16))).toNat=14 then x_4 else B.a14) (if((i64.wrap (x+x_1)).tmod (min y.W (O 16))).toNat=15 then x_4 else B.a15)) x_3)) (nN (qE false::qPs18 p [qE true,qE x,qE x_5]) (qPss0 x x_1 y x_4 B n cap x_3)))
 (qPs16 y (nN ((7,.lt2 0 1 0 1)::qE ((min y.W (O 16)).toNat)::qE p.w::qE x::qPs18 p [qE true,qE x,qE x_5]) (qPs11 x x_1 y x_4 B (qPs12 x x_1 y x_4 B (qPs13 x x_1 y x_4 B (qPs14 x x_1 y x_4 B (qPs15 x x_1 y x_4 B (qPs3 x x_1 y x_4 B (qPs4 x x_1 y x_4 B (qPs5 x x_1 y x_4 B (U ((min y.W (O 16)).toNat<=16/\∀(j:Nat),j<(min y.W (O 16)).toNat->O 0<=(A16.mk (if((i64.wrap (x+x_1)).tmod (min y.W (O 16))).toNat=0 then x_4 else B.a0) (if((i64.wrap (x+x_1)).tmod (min y.W (O 16))).toNat=1 then x_4 else B.a1) (if((i64.wrap (x+x_1)).tmod (min y.W (O 16))).toNat=2 then x_4 else B.a2) (if((i64.wrap (x+x_1)).tmod (min y.W (O 16))).toNat=3 then x_4 else B.a3) (if((i64.wrap (x+x_1)).tmod (min y.W (O 16))).toNat=4 then x_4 else B.a4) (if((i64.wrap (x+x_1)).tmod (min y.W (O 16))).toNat=5 then x_4 else B.a5) (if((i64.wrap (x+x_1)).tmod (min y.W (O 16))).toNat=6 then x_4 else B.a6) (if((i64.wrap (x+x_1)).tmod (min y.W (O 16))).toNat=7 then x_4 else B.a7) (if((i64.wrap (x+x_1)).tmod (min y.W (O 16))).toNat=8 then x_4 else B.a8) (if((i64.wrap (x+x_1)).tmod (min y.W (O 16))).toNat=9 then x_4 else B.a9) (if((i64.wrap (x+x_1)).tmod (min y.W (O 16))).toNat=10 then x_4 else B.a10) (if((i64.wrap (x+x_1)).tmod (min y.W (O 16))).toNat=11 then x_4 else B.a11) (if((i64.wrap (x+x_1)).tmod (min y.W (O 16))).toNat=12 then x_4 else B.a12) (if((i64.wrap (x+x_1)).tmod (min y.W (O 16))).toNat=13 then x_4 else B.a13) (if((i64.wrap (x+x_1)).tmod (min y.W (O 16))).toNat=14 then x_4 else B.a14) (if((i64.wrap (x+x_1)).tmod (min y.W (O 16))).toNat=15 then x_4 else B.a15)).get j/\(A16.mk (if((i64.wrap (x+x_1)).tmod (min y.W (O 16))).toNat=0 then x_4 else B.a0) (if((i64.wrap (x+x_1)).tmod (min y.W (O 16))).toNat=1 then x_4 else B.a1) (if((i64.wrap (x+x_1)).tmod (min y.W (O 16))).toNat=2 then x_4 else B.a2) (if((i64.wrap (x+x_1)).tmod (min y.W (O 16))).toNat=3 then x_4 else B.a3) (if((i64.wrap (x+x_1)).tmod (min y.W (O 16))).toNat=4 then x_4 else B.a4) (if((i64.wrap (x+x_1)).tmod (min y.W (O 16))).toNat=5 then x_4 else B.a5) (if((i64.wrap (x+x_1)).tmod (min y.W (O 16))).toNat=6 then x_4 else B.a6) (if((i64.wrap (x+x_1)).tmod (min y.W (O 16))).toNat=7 then x_4 else B.a7) (if((i64.wrap (x+x_1)).tmod (min y.W (O 16))).toNat=8 then x_4 else B.a8) (if((i64.wrap (x+x_1)).tmod (min y.W (O 16))).toNat=9 then x_4 else B.a9) (if((i64.wrap (x+x_1)).tmod (min y.W (O 16))).toNat=10 then x_4 else B.a10) (if((i64.wrap (x+x_1)).tmod (min y.W (O 16))).toNat=11 then x_4 else B.a11) (if((i64.wrap (x+x_1)).tmod (min y.W (O 16))).toNat=12 then x_4 else B.a12) (if((i64.wrap (x+x_1)).tmod (min y.W (O 16))).toNat=13 then x_4 else B.a13) (if((i64.wrap (x+x_1)).tmod (min y.W (O 16))).toNat=14 then x_4 else B.a14) (if((i64.wrap (x+x_1)).tmod (min y.W (O 16))).toNat=15 then x_4 else B.a15)).get j<=O 18446744073709551615) (V.br (decide ((zas (A16.mk (if((i64.wrap (x+x_1)).tmod (min y.W (O 16))).toNat=0 then x_4 else B.a0) (if((i64.wrap (x+x_1)).tmod (min y.W (O 16))).toNat=1 then x_4 else B.a1) (if((i64.wrap (x+x_1)).tmod (min y.W (O 16))).toNat=2 then x_4 else B.a2) (if((i64.wrap (x+x_1)).tmod (min y.W (O 16))).toNat=3 then x_4 else B.a3) (if((i64.wrap (x+x_1)).tmod (min y.W (O 16))).toNat=4 then x_4 else B.a4) (if((i64.wrap (x+x_1)).tmod (min y.W (O 16))).toNat=5 then x_4 else B.a5) (if((i64.wrap (x+x_1)).tmod (min y.W (O 16))).toNat=6 then x_4 else B.a6) (if((i64.wrap (x+x_1)).tmod (min y.W (O 16))).toNat=7 then x_4 else B.a7) (if((i64.wrap (x+x_1)).tmod (min y.W (O 16))).toNat=8 then x_4 else B.a8) (if((i64.wrap (x+x_1)).tmod (min y.W (O 16))).toNat=9 then x_4 else B.a9) (if((i64.wrap (x+x_1)).tmod (min y.W (O 16))).toNat=10 then x_4 else B.a10) (if((i64.wrap (x+x_1)).tmod (min y.W (O 16))).toNat=11 then x_4 else B.a11) (if((i64.wrap (x+x_1)).tmod (min y.W (O 16))).toNat=12 then x_4 else B.a12) (if((i64.wrap (x+x_1)).tmod (min y.W (O 16))).toNat=13 then x_4 else B.a13) (if((i64.wrap (x+x_1)).tmod (min y.W (O 16))).toNat=14 then x_4 else B.a14) (if((i64.wrap (x+x_1)).tmod (min y.W (O 16))).toNat=15 then x_4 else B.a15)).get (↑(min y.W (O 16)).toNat:Int) p.w (dr x (↑(min y.W (O 16)).toNat:Int)) (min y.W (O 16)).toNat).fst<O 0))
 (U (φ (Ps.mk true (Pr.mk true (O 2) (O 0) p.w true x x_5) (A16.mk (if((i64.wrap (x+x_1)).tmod (min y.W (O 16))).toNat=0 then x_4 else B.a0) (if((i64.wrap (x+x_1)).tmod (min y.W (O 16))).toNat=1 then x_4 else B.a1) (if((i64.wrap (x+x_1)).tmod (min y.W (O 16))).toNat=2 then x_4 else B.a2) (if((i64.wrap (x+x_1)).tmod (min y.W (O 16))).toNat=3 then x_4 else B.a3) (if((i64.wrap (x+x_1)).tmod (min y.W (O 16))).toNat=4 then x_4 else B.a4) (if((i64.wrap (x+x_1)).tmod (min y.W (O 16))).toNat=5 then x_4 else B.a5) (if((i64.wrap (x+x_1)).tmod (min y.W (O 16))).toNat=6 then x_4 else B.a6) (if((i64.wrap (x+x_1)).tmod (min y.W (O 16))).toNat=7 then x_4 else B.a7) (if((i64.wrap (x+x_1)).tmod (min y.W (O 16))).toNat=8 then x_4 else B.a8) (if((i64.wrap (x+x_1)).tmod (min y.W (O 16))).toNat=9 then x_4 else B.a9) (if((i64.wrap (x+x_1)).tmod (min y.W (O 16))).toNat=10 then x_4 else B.a10) (if((i64.wrap (x+x_1)).tmod (min y.W (O 16))).toNat=11 then x_4 else B.a11) (if((i64.wrap (x+x_1)).tmod (min y.W (O 16))).toNat=12 then x_4 else B.a12) (if((i64.wrap (x+x_1)).tmod (min y.W (O 16))).toNat=13 then x_4 else B.a13) (if((i64.wrap (x+x_1)).tmod (min y.W (O 16))).toNat=14 then x_4 else B.a14) (if((i64.wrap (x+x_1)).tmod (min y.W (O 16))).toNat=15 then x_4 else B.a15)) x_3)) (nN (qE true::qE true::qPs19 [qE p.w,qE true,qE x,qE x_5]) (qPss0 x x_1 y x_4 B n cap x_3)))
 (U (φ (Ps.mk true (Pr.mk true (O 1) (i64.wrap (i64.wrap ((zas (A16.mk (if((i64.wrap (x+x_1)).tmod (min y.W (O 16))).toNat=0 then x_4 else B.a0) (if((i64.wrap (x+x_1)).tmod (min y.W (O 16))).toNat=1 then x_4 else B.a1) (if((i64.wrap (x+x_1)).tmod (min y.W (O 16))).toNat=2 then x_4 else B.a2) (if((i64.wrap (x+x_1)).tmod (min y.W (O 16))).toNat=3 then x_4 else B.a3) (if((i64.wrap (x+x_1)).tmod (min y.W (O 16))).toNat=4 then x_4 else B.a4) (if((i64.wrap (x+x_1)).tmod (min y.W (O 16))).toNat=5 then x_4 else B.a5) (if((i64.wrap (x+x_1)).tmod (min y.W (O 16))).toNat=6 then x_4 else B.a6) (if((i64.wrap (x+x_1)).tmod (min y.W (O 16))).toNat=7 then x_4 else B.a7) (if((i64.wrap (x+x_1)).tmod (min y.W (O 16))).toNat=8 then x_4 else B.a8) (if((i64.wrap (x+x_1)).tmod (min y.W (O 16))).toNat=9 then x_4 else B.a9) (if((i64.wrap (x+x_1)).tmod (min y.W (O 16))).toNat=10 then x_4 else B.a10) (if((i64.wrap (x+x_1)).tmod (min y.W (O 16))).toNat=11 then x_4 else B.a11) (if((i64.wrap (x+x_1)).tmod (min y.W (O 16))).toNat=12 then x_4 else B.a12) (if((i64.wrap (x+x_1)).tmod (min y.W (O 16))).toNat=13 then x_4 else B.a13) (if((i64.wrap (x+x_1)).tmod (min y.W (O 16))).toNat=14 then x_4 else B.a14) (if((i64.wrap (x+x_1)).tmod (min y.W (O 16))).toNat=15 then x_4 else B.a15)).get (↑(min y.W (O 16)).toNat:Int) p.w (dr x (↑(min y.W (O 16)).toNat:Int)) (min y.W (O 16)).toNat).fst*O 64)+(zas (A16.mk (if((i64.wrap (x+x_1)).tmod (min y.W (O 16))).toNat=0 then x_4 else B.a0) (if((i64.wrap (x+x_1)).tmod (min y.W (O 16))).toNat=1 then x_4 else B.a1) (if((i64.wrap (x+x_1)).tmod (min y.W (O 16))).toNat=2 then x_4 else B.a2) (if((i64.wrap (x+x_1)).tmod (min y.W (O 16))).toNat=3 then x_4 else B.a3) (if((i64.wrap (x+x_1)).tmod (min y.W (O 16))).toNat=4 then x_4 else B.a4) (if((i64.wrap (x+x_1)).tmod (min y.W (O 16))).toNat=5 then x_4 else B.a5) (if((i64.wrap (x+x_1)).tmod (min y.W (O 16))).toNat=6 then x_4 else B.a6) (if((i64.wrap (x+x_1)).tmod (min y.W (O 16))).toNat=7 then x_4 else B.a7) (if((i64.wrap (x+x_1)).tmod (min y.W (O 16))).toNat=8 then x_4 else B.a8) (if((i64.wrap (x+x_1)).tmod (min y.W (O 16))).toNat=9 then x_4 else B.a9) (if((i64.wrap (x+x_1)).tmod (min y.W (O 16))).toNat=10 then x_4 else B.a10) (if((i64.wrap (x+x_1)).tmod (min y.W (O 16))).toNat=11 then x_4 else B.a11) (if((i64.wrap (x+x_1)).tmod (min y.W (O 16))).toNat=12 then x_4 else B.a12) (if((i64.wrap (x+x_1)).tmod (min y.W (O 16))).toNat=13 then x_4 else B.a13) (if((i64.wrap (x+x_1)).tmod (min y.W (O 16))).toNat=14 then x_4 else B.a14) (if((i64.wrap (x+x_1)).tmod (min y.W (O 16))).toNat=15 then x_4 else B.a15)).get (↑(min y.W (O 16)).toNat:Int) p.w (dr x (↑(min y.W (O 16)).toNat:Int)) (min y.W (O 16)).toNat).snd)) p.w true x x_5) (A16.mk (if((i64.wrap (x+x_1)).tmod (min y.W (O 16))).toNat=0 then x_4 else B.a0) (if((i64.wrap (x+x_1)).tmod (min y.W (O 16))).toNat=1 then x_4 else B.a1) (if((i64.wrap (x+x_1)).tmod (min y.W (O 16))).toNat=2 then x_4 else B.a2) (if((i64.wrap (x+x_1)).tmod (min y.W (O 16))).toNat=3 then x_4 else B.a3) (if((i64.wrap (x+x_1)).tmod (min y.W (O 16))).toNat=4 then x_4 else B.a4) (if((i64.wrap (x+x_1)).tmod (min y.W (O 16))).toNat=5 then x_4 else B.a5) (if((i64.wrap (x+x_1)).tmod (min y.W (O 16))).toNat=6 then x_4 else B.a6) (if((i64.wrap (x+x_1)).tmod (min y.W (O 16))).toNat=7 then x_4 else B.a7) (if((i64.wrap (x+x_1)).tmod (min y.W (O 16))).toNat=8 then x_4 else B.a8) (if((i64.wrap (x+x_1)).tmod (min y.W (O 16))).toNat=9 then x_4 else B.a9) (if((i64.wrap (x+x_1)).tmod (min y.W (O 16))).toNat=10 then x_4 else B.a10) (if((i64.wrap (x+x_1)).tmod (min y.W (O 16))).toNat=11 then x_4 else B.a11) (if((i64.wrap (x+x_1)).tmod (min y.W (O 16))).toNat=12 then x_4 else B.a12) (if((i64.wrap (x+x_1)).tmod (min y.W (O 16))).toNat=13 then x_4 else B.a13) (if((i64.wrap (x+x_1)).tmod (min y.W (O 16))).toNat=14 then x_4 else B.a14) (if((i64.wrap (x+x_1)).tmod (min y.W (O 16))).toNat=15 then x_4 else B.a15)) x_3)) (nN [qE true,qE true,(1,.eqI 1 1)] (U (i64.wrap (i64.wrap ((zas (A16.mk (if((i64.wrap (x+x_1)).tmod (min y.W (O 16))).toNat=0 then x_4 else B.a0) (if((i64.wrap (x+x_1)).tmod (min y.W (O 16))).toNat=1 then x_4 else B.a1) (if((i64.wrap (x+x_1)).tmod (min y.W (O 16))).toNat=2 then x_4 else B.a2) (if((i64.wrap (x+x_1)).tmod (min y.W (O 16))).toNat=3 then x_4 else B.a3) (if((i64.wrap (x+x_1)).tmod (min y.W (O 16))).toNat=4 then x_4 else B.a4) (if((i64.wrap (x+x_1)).tmod (min y.W (O 16))).toNat=5 then x_4 else B.a5) (if((i64.wrap (x+x_1)).tmod (min y.W (O 16))).toNat=6 then x_4 else B.a6) (if((i64.wrap (x+x_1)).tmod (min y.W (O 16))).toNat=7 then x_4 else B.a7) (if((i64.wrap (x+x_1)).tmod (min y.W (O 16))).toNat=8 then x_4 else B.a8) (if((i64.wrap (x+x_1)).tmod (min y.W (O 16))).toNat=9 then x_4 else B.a9) (if((i64.wrap (x+x_1)).tmod (min y.W (O 16))).toNat=10 then x_4 else B.a10) (if((i64.wrap (x+x_1)).tmod (min y.W (O 16))).toNat=11 then x_4 else B.a11) (if((i64.wrap (x+x_1)).tmod (min y.W (O 16))).toNat=12 then x_4 else B.a12) (if((i64.wrap (x+x_1)).tmod (min y.W (O 16))).toNat=13 then x_4 else B.a13) (if((i64.wrap (x+x_1)).tmod (min y.W (O 16))).toNat=14 then x_4 else B.a14) (if((i64.wrap (x+x_1)).tmod (min y.W (O 16))).toNat=15 then x_4 else B.a15)).get (↑(min y.W (O 16)).toNat:Int) p.w (dr x (↑(min y.W (O 16)).toNat:Int)) (min y.W (O 16)).toNat).fst*O 64)+(zas (A16.mk (if((i64.wrap (x+x_1)).tmod (min y.W (O 16))).toNat=0 then x_4 else B.a0) (if((i64.wrap (x+x_1)).tmod (min y.W (O 16))).toNat=1 then x_4 else B.a1) (if((i64.wrap (x+x_1)).tmod (min y.W (O 16))).toNat=2 then x_4 else B.a2) (if((i64.wrap (x+x_1)).tmod (min y.W (O 16))).toNat=3 then x_4 else B.a3) (if((i64.wrap (x+x_1)).tmod (min y.W (O 16))).toNat=4 then x_4 else B.a4) (if((i64.wrap (x+x_1)).tmod (min y.W (O 16))).toNat=5 then x_4 else B.a5) (if((i64.wrap (x+x_1)).tmod (min y.W (O 16))).toNat=6 then x_4 else B.a6) (if((i64.wrap (x+x_1)).tmod (min y.W (O 16))).toNat=7 then x_4 else B.a7) (if((i64.wrap (x+x_1)).tmod (min y.W (O 16))).toNat=8 then x_4 else B.a8) (if((i64.wrap (x+x_1)).tmod (min y.W (O 16))).toNat=9 then x_4 else B.a9) (if((i64.wrap (x+x_1)).tmod (min y.W (O 16))).toNat=10 then x_4 else B.a10) (if((i64.wrap (x+x_1)).tmod (min y.W (O 16))).toNat=11 then x_4 else B.a11) (if((i64.wrap (x+x_1)).tmod (min y.W (O 16))).toNat=12 then x_4 else B.a12) (if((i64.wrap (x+x_1)).tmod (min y.W (O 16))).toNat=13 then x_4 else B.a13) (if((i64.wrap (x+x_1)).tmod (min y.W (O 16))).toNat=14 then x_4 else B.a14) (if((i64.wrap (x+x_1)).tmod (min y.W (O 16))).toNat=15 then x_4 else B.a15)).get (↑(min y.W (O 16)).toNat:Int) p.w (dr x (↑(min y.W (O 16)).toNat:Int)) (min y.W (O 16)).toNat).snd)=i64.wrap (i64.wrap ((zas (A16.mk (if((i64.wrap (x+x_1)).tmod (min y.W (O 16))).toNat=0 then x_4 else B.a0) (if((i64.wrap (x+x_1)).tmod (min y.W (O 16))).toNat=1 then x_4 else B.a1) (if((i64.wrap (x+x_1)).tmod (min y.W (O 16))).toNat=2 then x_4 else B.a2) (if((i64.wrap (x+x_1)).tmod (min y.W (O 16))).toNat=3 then x_4 else B.a3) (if((i64.wrap (x+x_1)).tmod (min y.W (O 16))).toNat=4 then x_4 else B.a4) (if((i64.wrap (x+x_1)).tmod (min y.W (O 16))).toNat=5 then x_4 else B.a5) (if((i64.wrap (x+x_1)).tmod (min y.W (O 16))).toNat=6 then x_4 else B.a6) (if((i64.wrap (x+x_1)).tmod (min y.W (O 16))).toNat=7 then x_4 else B.a7) (if((i64.wrap (x+x_1)).tmod (min y.W (O 16))).toNat=8 then x_4 else B.a8) (if((i64.wrap (x+x_1)).tmod (min y.W (O 16))).toNat=9 then x_4 else B.a9) (if((i64.wrap (x+x_1)).tmod (min y.W (O 16))).toNat=10 then x_4 else B.a10) (if((i64.wrap (x+x_1)).tmod (min y.W (O 16))).toNat=11 then x_4 else B.a11) (if((i64.wrap (x+x_1)).tmod (min y.W (O 16))).toNat=12 then x_4 else B.a12) (if((i64.wrap (x+x_1)).tmod (min y.W (O 16))).toNat=13 then x_4 else B.a13) (if((i64.wrap (x+x_1)).tmod (min y.W (O 16))).toNat=14 then x_4 else B.a14) (if((i64.wrap (x+x_1)).tmod (min y.W (O 16))).toNat=15 then x_4 else B.a15)).get (↑(min y.W (O 16)).toNat:Int) p.w (dr x (↑(min y.W (O 16)).toNat:Int)) (min y.W (O 16)).toNat).fst*O 64)+(zas (A16.mk (if((i64.wrap (x+x_1)).tmod (min y.W (O 16))).toNat=0 then x_4 else B.a0) (if((i64.wrap (x+x_1)).tmod (min y.W (O 16))).toNat=1 then x_4 else B.a1) (if((i64.wrap (x+x_1)).tmod (min y.W (O 16))).toNat=2 then x_4 else B.a2) (if((i64.wrap (x+x_1)).tmod (min y.W (O 16))).toNat=3 then x_4 else B.a3) (if((i64.wrap (x+x_1)).tmod (min y.W (O 16))).toNat=4 then x_4 else B.a4) (if((i64.wrap (x+x_1)).tmod (min y.W (O 16))).toNat=5 then x_4 else B.a5) (if((i64.wrap (x+x_1)).tmod (min y.W (O 16))).toNat=6 then x_4 else B.a6) (if((i64.wrap (x+x_1)).tmod (min y.W (O 16))).toNat=7 then x_4 else B.a7) (if((i64.wrap (x+x_1)).tmod (min y.W (O 16))).toNat=8 then x_4 else B.a8) (if((i64.wrap (x+x_1)).tmod (min y.W (O 16))).toNat=9 then x_4 else B.a9) (if((i64.wrap (x+x_1)).tmod (min y.W (O 16))).toNat=10 then x_4 else B.a10) (if((i64.wrap (x+x_1)).tmod (min y.W (O 16))).toNat=11 then x_4 else B.a11) (if((i64.wrap (x+x_1)).tmod (min y.W (O 16))).toNat=12 then x_4 else B.a12) (if((i64.wrap (x+x_1)).tmod (min y.W (O 16))).toNat=13 then x_4 else B.a13) (if((i64.wrap (x+x_1)).tmod (min y.W (O 16))).toNat=14 then x_4 else B.a14) (if((i64.wrap (x+x_1)).tmod (min y.W (O 16))).toNat=15 then x_4 else B.a15)).get (↑(min y.W (O 16)).toNat:Int) p.w (dr x (↑(min y.W (O 16)).toNat:Int)) (min y.W (O 16)).toNat).snd)) (nN [qE p.w,qE true,qE x,qE x_5] (qPss0 x x_1 y x_4 B n cap x_3)))))))))))))))))))))))))))))))))))))))))))))))
 (nN (qPs20 y p [qE p.b,qE p.st,qE p.nx,qE B.a0,qE B.a1,qE B.a2,qE B.a3,qE B.a4,qE B.a5,qE B.a6,qE B.a7,qE B.a8,qE B.a9,qE B.a10,qE B.a11,qE B.a12,qE B.a13,qE B.a14,qE B.a15]) (U (okPa p (min y.W (O 16))) (nN [qX (nxP p.st p.nx p.w (min y.W (O 16)))] (V.any Int (fun (q:Int)=>q=nxP p.st p.nx p.w (min y.W (O 16))) fun (x:Int)=>V.br (decide (x >= min y.W (O 16)))
 (U (φ (Ps.mk true (Pr.mk true (O 2) (O 0) p.w p.b p.st x) B m)) (nN (qE true::qE true::qPs19 (qE p.w::qE p.b::qE p.st::qE x::qE B.a0::qE B.a1::qE B.a2::qE B.a3::qE B.a4::qE B.a5::qE B.a6::qE B.a7::qE B.a8::qE B.a9::qE B.a10::qE B.a11::qE B.a12::qE B.a13::qE B.a14::qE B.a15::qE n::qE cap::qPs17 m [qE cap,qL n,qF n m.g])) V.ok))
 (nN [(6,.lt2 0 1 0 1)] (U (min y.W (O 16)≠O 0) (nN [(16,.lt2 0 1 0 1),qE ((i64.wrap (p.st+x)).tmod (min y.W (O 16))),qE y.W,qE y.bm,(1,.eqI 1 1)] (U (okAtT ((i64.wrap (p.st+x)).tmod (min y.W (O 16))) y.W y.bm (O 1)) (nN [qX (atM ((i64.wrap (p.st+x)).tmod (min y.W (O 16))) y.W y.bm (O 1))] (V.any Int (fun (r:Int)=>r=atM ((i64.wrap (p.st+x)).tmod (min y.W (O 16))) y.W y.bm (O 1)) fun (x_1:Int)=>nN (qE x_1::qE n::qE cap::qPs17 m [qE cap,qL n,qF n m.g,qX (m.acc n (O 1) x_1 (m.val n x_1))]) (V.any Mm (fun (m':Mm)=>m'=m.acc n (O 1) x_1 (m.val n x_1)) fun (x_2:Mm)=>nN [qX (m.val n x_1)] (V.any Int (fun (v:Int)=>v=m.val n x_1) fun (x_3:Int)=>nN [(2,.lt2 0 1 0 1)] (U (O 0<=(i64.wrap (p.st+x)).tmod (min y.W (O 16))/\(i64.wrap (p.st+x)).tmod (min y.W (O 16))<(↑16:Int)) (nN [(1,.lt2 0 1 0 1)] (U (((i64.wrap (p.st+x)).tmod (min y.W (O 16))).toNat < [B.a0,B.a1,B.a2,B.a3,B.a4,B.a5,B.a6,B.a7,B.a8,B.a9,B.a10,B.a11,B.a12,B.a13,B.a14,B.a15].length) (nN (qPs20 y p [qE p.b,qE p.st,qE (i64.wrap (x+O 1))]) (qPs6 p x y x_3 B (qPs7 p x y x_3 B (qPs8 p x y x_3 B (qPs9 p x y x_3 B (qPs10 p x y x_3 B (qPs0 p x y x_3 B (qPs1 p x y x_3 B (qPs2 p x y x_3 B (U (okPa { p with nx:=i64.wrap (x+O 1) } (min y.W (O 16))) (nN [qX (nxP p.st (i64.wrap (x+O 1)) p.w (min y.W (O 16)))] (V.any Int (fun (q:Int)=>q=nxP p.st (i64.wrap (x+O 1)) p.w (min y.W (O 16))) fun (x_4:Int)=>V.br (!decide (x_4 >= min y.W (O 16)))
 (U (φ (Ps.mk false { p with nx:=x_4 } (A16.mk (if((i64.wrap (p.st+x)).tmod (min y.W (O 16))).toNat=0 then x_3 else B.a0) (if((i64.wrap (p.st+x)).tmod (min y.W (O 16))).toNat=1 then x_3 else B.a1) (if((i64.wrap (p.st+x)).tmod (min y.W (O 16))).toNat=2 then x_3 else B.a2) (if((i64.wrap (p.st+x)).tmod (min y.W (O 16))).toNat=3 then x_3 else B.a3) (if((i64.wrap (p.st+x)).tmod (min y.W (O 16))).toNat=4 then x_3 else B.a4) (if((i64.wrap (p.st+x)).tmod (min y.W (O 16))).toNat=5 then x_3 else B.a5) (if((i64.wrap (p.st+x)).tmod (min y.W (O 16))).toNat=6 then x_3 else B.a6) (if((i64.wrap (p.st+x)).tmod (min y.W (O 16))).toNat=7 then x_3 else B.a7) (if((i64.wrap (p.st+x)).tmod (min y.W (O 16))).toNat=8 then x_3 else B.a8) (if((i64.wrap (p.st+x)).tmod (min y.W (O 16))).toNat=9 then x_3 else B.a9) (if((i64.wrap (p.st+x)).tmod (min y.W (O 16))).toNat=10 then x_3 else B.a10) (if((i64.wrap (p.st+x)).tmod (min y.W (O 16))).toNat=11 then x_3 else B.a11) (if((i64.wrap (p.st+x)).tmod (min y.W (O 16))).toNat=12 then x_3 else B.a12) (if((i64.wrap (p.st+x)).tmod (min y.W (O 16))).toNat=13 then x_3 else B.a13) (if((i64.wrap (p.st+x)).tmod (min y.W (O 16))).toNat=14 then x_3 else B.a14) (if((i64.wrap (p.st+x)).tmod (min y.W (O 16))).toNat=15 then x_3 else B.a15)) x_2)) (nN (qE false::qPs18 p [qE p.b,qE p.st,qE x_4]) (qPss1 p x y x_3 B n cap x_2)))
 (qPs16 y (nN ((7,.lt2 0 1 0 1)::qE ((min y.W (O 16)).toNat)::qE p.w::qE p.st::qPs18 p [qE p.b,qE p.st,qE x_4]) (qPs6 p x y x_3 B (qPs7 p x y x_3 B (qPs8 p x y x_3 B (qPs9 p x y x_3 B (qPs10 p x y x_3 B (qPs0 p x y x_3 B (qPs1 p x y x_3 B (qPs2 p x y x_3 B (U ((min y.W (O 16)).toNat<=16/\∀(j:Nat),j<(min y.W (O 16)).toNat->O 0<=(A16.mk (if((i64.wrap (p.st+x)).tmod (min y.W (O 16))).toNat=0 then x_3 else B.a0) (if((i64.wrap (p.st+x)).tmod (min y.W (O 16))).toNat=1 then x_3 else B.a1) (if((i64.wrap (p.st+x)).tmod (min y.W (O 16))).toNat=2 then x_3 else B.a2) (if((i64.wrap (p.st+x)).tmod (min y.W (O 16))).toNat=3 then x_3 else B.a3) (if((i64.wrap (p.st+x)).tmod (min y.W (O 16))).toNat=4 then x_3 else B.a4) (if((i64.wrap (p.st+x)).tmod (min y.W (O 16))).toNat=5 then x_3 else B.a5) (if((i64.wrap (p.st+x)).tmod (min y.W (O 16))).toNat=6 then x_3 else B.a6) (if((i64.wrap (p.st+x)).tmod (min y.W (O 16))).toNat=7 then x_3 else B.a7) (if((i64.wrap (p.st+x)).tmod (min y.W (O 16))).toNat=8 then x_3 else B.a8) (if((i64.wrap (p.st+x)).tmod (min y.W (O 16))).toNat=9 then x_3 else B.a9) (if((i64.wrap (p.st+x)).tmod (min y.W (O 16))).toNat=10 then x_3 else B.a10) (if((i64.wrap (p.st+x)).tmod (min y.W (O 16))).toNat=11 then x_3 else B.a11) (if((i64.wrap (p.st+x)).tmod (min y.W (O 16))).toNat=12 then x_3 else B.a12) (if((i64.wrap (p.st+x)).tmod (min y.W (O 16))).toNat=13 then x_3 else B.a13) (if((i64.wrap (p.st+x)).tmod (min y.W (O 16))).toNat=14 then x_3 else B.a14) (if((i64.wrap (p.st+x)).tmod (min y.W (O 16))).toNat=15 then x_3 else B.a15)).get j/\(A16.mk (if((i64.wrap (p.st+x)).tmod (min y.W (O 16))).toNat=0 then x_3 else B.a0) (if((i64.wrap (p.st+x)).tmod (min y.W (O 16))).toNat=1 then x_3 else B.a1) (if((i64.wrap (p.st+x)).tmod (min y.W (O 16))).toNat=2 then x_3 else B.a2) (if((i64.wrap (p.st+x)).tmod (min y.W (O 16))).toNat=3 then x_3 else B.a3) (if((i64.wrap (p.st+x)).tmod (min y.W (O 16))).toNat=4 then x_3 else B.a4) (if((i64.wrap (p.st+x)).tmod (min y.W (O 16))).toNat=5 then x_3 else B.a5) (if((i64.wrap (p.st+x)).tmod (min y.W (O 16))).toNat=6 then x_3 else B.a6) (if((i64.wrap (p.st+x)).tmod (min y.W (O 16))).toNat=7 then x_3 else B.a7) (if((i64.wrap (p.st+x)).tmod (min y.W (O 16))).toNat=8 then x_3 else B.a8) (if((i64.wrap (p.st+x)).tmod (min y.W (O 16))).toNat=9 then x_3 else B.a9) (if((i64.wrap (p.st+x)).tmod (min y.W (O 16))).toNat=10 then x_3 else B.a10) (if((i64.wrap (p.st+x)).tmod (min y.W (O 16))).toNat=11 then x_3 else B.a11) (if((i64.wrap (p.st+x)).tmod (min y.W (O 16))).toNat=12 then x_3 else B.a12) (if((i64.wrap (p.st+x)).tmod (min y.W (O 16))).toNat=13 then x_3 else B.a13) (if((i64.wrap (p.st+x)).tmod (min y.W (O 16))).toNat=14 then x_3 else B.a14) (if((i64.wrap (p.st+x)).tmod (min y.W (O 16))).toNat=15 then x_3 else B.a15)).get j<=O 18446744073709551615) (V.br (decide ((zas (A16.mk (if((i64.wrap (p.st+x)).tmod (min y.W (O 16))).toNat=0 then x_3 else B.a0) (if((i64.wrap (p.st+x)).tmod (min y.W (O 16))).toNat=1 then x_3 else B.a1) (if((i64.wrap (p.st+x)).tmod (min y.W (O 16))).toNat=2 then x_3 else B.a2) (if((i64.wrap (p.st+x)).tmod (min y.W (O 16))).toNat=3 then x_3 else B.a3) (if((i64.wrap (p.st+x)).tmod (min y.W (O 16))).toNat=4 then x_3 else B.a4) (if((i64.wrap (p.st+x)).tmod (min y.W (O 16))).toNat=5 then x_3 else B.a5) (if((i64.wrap (p.st+x)).tmod (min y.W (O 16))).toNat=6 then x_3 else B.a6) (if((i64.wrap (p.st+x)).tmod (min y.W (O 16))).toNat=7 then x_3 else B.a7) (if((i64.wrap (p.st+x)).tmod (min y.W (O 16))).toNat=8 then x_3 else B.a8) (if((i64.wrap (p.st+x)).tmod (min y.W (O 16))).toNat=9 then x_3 else B.a9) (if((i64.wrap (p.st+x)).tmod (min y.W (O 16))).toNat=10 then x_3 else B.a10) (if((i64.wrap (p.st+x)).tmod (min y.W (O 16))).toNat=11 then x_3 else B.a11) (if((i64.wrap (p.st+x)).tmod (min y.W (O 16))).toNat=12 then x_3 else B.a12) (if((i64.wrap (p.st+x)).tmod (min y.W (O 16))).toNat=13 then x_3 else B.a13) (if((i64.wrap (p.st+x)).tmod (min y.W (O 16))).toNat=14 then x_3 else B.a14) (if((i64.wrap (p.st+x)).tmod (min y.W (O 16))).toNat=15 then x_3 else B.a15)).get (↑(min y.W (O 16)).toNat:Int) p.w (dr p.st (↑(min y.W (O 16)).toNat:Int)) (min y.W (O 16)).toNat).fst<O 0))
 (U (φ (Ps.mk true (Pr.mk true (O 2) (O 0) p.w p.b p.st x_4) (A16.mk (if((i64.wrap (p.st+x)).tmod (min y.W (O 16))).toNat=0 then x_3 else B.a0) (if((i64.wrap (p.st+x)).tmod (min y.W (O 16))).toNat=1 then x_3 else B.a1) (if((i64.wrap (p.st+x)).tmod (min y.W (O 16))).toNat=2 then x_3 else B.a2) (if((i64.wrap (p.st+x)).tmod (min y.W (O 16))).toNat=3 then x_3 else B.a3) (if((i64.wrap (p.st+x)).tmod (min y.W (O 16))).toNat=4 then x_3 else B.a4) (if((i64.wrap (p.st+x)).tmod (min y.W (O 16))).toNat=5 then x_3 else B.a5) (if((i64.wrap (p.st+x)).tmod (min y.W (O 16))).toNat=6 then x_3 else B.a6) (if((i64.wrap (p.st+x)).tmod (min y.W (O 16))).toNat=7 then x_3 else B.a7) (if((i64.wrap (p.st+x)).tmod (min y.W (O 16))).toNat=8 then x_3 else B.a8) (if((i64.wrap (p.st+x)).tmod (min y.W (O 16))).toNat=9 then x_3 else B.a9) (if((i64.wrap (p.st+x)).tmod (min y.W (O 16))).toNat=10 then x_3 else B.a10) (if((i64.wrap (p.st+x)).tmod (min y.W (O 16))).toNat=11 then x_3 else B.a11) (if((i64.wrap (p.st+x)).tmod (min y.W (O 16))).toNat=12 then x_3 else B.a12) (if((i64.wrap (p.st+x)).tmod (min y.W (O 16))).toNat=13 then x_3 else B.a13) (if((i64.wrap (p.st+x)).tmod (min y.W (O 16))).toNat=14 then x_3 else B.a14) (if((i64.wrap (p.st+x)).tmod (min y.W (O 16))).toNat=15 then x_3 else B.a15)) x_2)) (nN (qE true::qE true::qPs19 [qE p.w,qE p.b,qE p.st,qE x_4]) (qPss1 p x y x_3 B n cap x_2)))
 (U (φ (Ps.mk true (Pr.mk true (O 1) (i64.wrap (i64.wrap ((zas (A16.mk (if((i64.wrap (p.st+x)).tmod (min y.W (O 16))).toNat=0 then x_3 else B.a0) (if((i64.wrap (p.st+x)).tmod (min y.W (O 16))).toNat=1 then x_3 else B.a1) (if((i64.wrap (p.st+x)).tmod (min y.W (O 16))).toNat=2 then x_3 else B.a2) (if((i64.wrap (p.st+x)).tmod (min y.W (O 16))).toNat=3 then x_3 else B.a3) (if((i64.wrap (p.st+x)).tmod (min y.W (O 16))).toNat=4 then x_3 else B.a4) (if((i64.wrap (p.st+x)).tmod (min y.W (O 16))).toNat=5 then x_3 else B.a5) (if((i64.wrap (p.st+x)).tmod (min y.W (O 16))).toNat=6 then x_3 else B.a6) (if((i64.wrap (p.st+x)).tmod (min y.W (O 16))).toNat=7 then x_3 else B.a7) (if((i64.wrap (p.st+x)).tmod (min y.W (O 16))).toNat=8 then x_3 else B.a8) (if((i64.wrap (p.st+x)).tmod (min y.W (O 16))).toNat=9 then x_3 else B.a9) (if((i64.wrap (p.st+x)).tmod (min y.W (O 16))).toNat=10 then x_3 else B.a10) (if((i64.wrap (p.st+x)).tmod (min y.W (O 16))).toNat=11 then x_3 else B.a11) (if((i64.wrap (p.st+x)).tmod (min y.W (O 16))).toNat=12 then x_3 else B.a12) (if((i64.wrap (p.st+x)).tmod (min y.W (O 16))).toNat=13 then x_3 else B.a13) (if((i64.wrap (p.st+x)).tmod (min y.W (O 16))).toNat=14 then x_3 else B.a14) (if((i64.wrap (p.st+x)).tmod (min y.W (O 16))).toNat=15 then x_3 else B.a15)).get (↑(min y.W (O 16)).toNat:Int) p.w (dr p.st (↑(min y.W (O 16)).toNat:Int)) (min y.W (O 16)).toNat).fst*O 64)+(zas (A16.mk (if((i64.wrap (p.st+x)).tmod (min y.W (O 16))).toNat=0 then x_3 else B.a0) (if((i64.wrap (p.st+x)).tmod (min y.W (O 16))).toNat=1 then x_3 else B.a1) (if((i64.wrap (p.st+x)).tmod (min y.W (O 16))).toNat=2 then x_3 else B.a2) (if((i64.wrap (p.st+x)).tmod (min y.W (O 16))).toNat=3 then x_3 else B.a3) (if((i64.wrap (p.st+x)).tmod (min y.W (O 16))).toNat=4 then x_3 else B.a4) (if((i64.wrap (p.st+x)).tmod (min y.W (O 16))).toNat=5 then x_3 else B.a5) (if((i64.wrap (p.st+x)).tmod (min y.W (O 16))).toNat=6 then x_3 else B.a6) (if((i64.wrap (p.st+x)).tmod (min y.W (O 16))).toNat=7 then x_3 else B.a7) (if((i64.wrap (p.st+x)).tmod (min y.W (O 16))).toNat=8 then x_3 else B.a8) (if((i64.wrap (p.st+x)).tmod (min y.W (O 16))).toNat=9 then x_3 else B.a9) (if((i64.wrap (p.st+x)).tmod (min y.W (O 16))).toNat=10 then x_3 else B.a10) (if((i64.wrap (p.st+x)).tmod (min y.W (O 16))).toNat=11 then x_3 else B.a11) (if((i64.wrap (p.st+x)).tmod (min y.W (O 16))).toNat=12 then x_3 else B.a12) (if((i64.wrap (p.st+x)).tmod (min y.W (O 16))).toNat=13 then x_3 else B.a13) (if((i64.wrap (p.st+x)).tmod (min y.W (O 16))).toNat=14 then x_3 else B.a14) (if((i64.wrap (p.st+x)).tmod (min y.W (O 16))).toNat=15 then x_3 else B.a15)).get (↑(min y.W (O 16)).toNat:Int) p.w (dr p.st (↑(min y.W (O 16)).toNat:Int)) (min y.W (O 16)).toNat).snd)) p.w p.b p.st x_4) (A16.mk (if((i64.wrap (p.st+x)).tmod (min y.W (O 16))).toNat=0 then x_3 else B.a0) (if((i64.wrap (p.st+x)).tmod (min y.W (O 16))).toNat=1 then x_3 else B.a1) (if((i64.wrap (p.st+x)).tmod (min y.W (O 16))).toNat=2 then x_3 else B.a2) (if((i64.wrap (p.st+x)).tmod (min y.W (O 16))).toNat=3 then x_3 else B.a3) (if((i64.wrap (p.st+x)).tmod (min y.W (O 16))).toNat=4 then x_3 else B.a4) (if((i64.wrap (p.st+x)).tmod (min y.W (O 16))).toNat=5 then x_3 else B.a5) (if((i64.wrap (p.st+x)).tmod (min y.W (O 16))).toNat=6 then x_3 else B.a6) (if((i64.wrap (p.st+x)).tmod (min y.W (O 16))).toNat=7 then x_3 else B.a7) (if((i64.wrap (p.st+x)).tmod (min y.W (O 16))).toNat=8 then x_3 else B.a8) (if((i64.wrap (p.st+x)).tmod (min y.W (O 16))).toNat=9 then x_3 else B.a9) (if((i64.wrap (p.st+x)).tmod (min y.W (O 16))).toNat=10 then x_3 else B.a10) (if((i64.wrap (p.st+x)).tmod (min y.W (O 16))).toNat=11 then x_3 else B.a11) (if((i64.wrap (p.st+x)).tmod (min y.W (O 16))).toNat=12 then x_3 else B.a12) (if((i64.wrap (p.st+x)).tmod (min y.W (O 16))).toNat=13 then x_3 else B.a13) (if((i64.wrap (p.st+x)).tmod (min y.W (O 16))).toNat=14 then x_3 else B.a14) (if((i64.wrap (p.st+x)).tmod (min y.W (O 16))).toNat=15 then x_3 else B.a15)) x_2)) (nN [qE true,qE true,(1,.eqI 1 1)] (U (i64.wrap (i64.wrap ((zas (A16.mk (if((i64.wrap (p.st+x)).tmod (min y.W (O 16))).toNat=0 then x_3 else B.a0) (if((i64.wrap (p.st+x)).tmod (min y.W (O 16))).toNat=1 then x_3 else B.a1) (if((i64.wrap (p.st+x)).tmod (min y.W (O 16))).toNat=2 then x_3 else B.a2) (if((i64.wrap (p.st+x)).tmod (min y.W (O 16))).toNat=3 then x_3 else B.a3) (if((i64.wrap (p.st+x)).tmod (min y.W (O 16))).toNat=4 then x_3 else B.a4) (if((i64.wrap (p.st+x)).tmod (min y.W (O 16))).toNat=5 then x_3 else B.a5) (if((i64.wrap (p.st+x)).tmod (min y.W (O 16))).toNat=6 then x_3 else B.a6) (if((i64.wrap (p.st+x)).tmod (min y.W (O 16))).toNat=7 then x_3 else B.a7) (if((i64.wrap (p.st+x)).tmod (min y.W (O 16))).toNat=8 then x_3 else B.a8) (if((i64.wrap (p.st+x)).tmod (min y.W (O 16))).toNat=9 then x_3 else B.a9) (if((i64.wrap (p.st+x)).tmod (min y.W (O 16))).toNat=10 then x_3 else B.a10) (if((i64.wrap (p.st+x)).tmod (min y.W (O 16))).toNat=11 then x_3 else B.a11) (if((i64.wrap (p.st+x)).tmod (min y.W (O 16))).toNat=12 then x_3 else B.a12) (if((i64.wrap (p.st+x)).tmod (min y.W (O 16))).toNat=13 then x_3 else B.a13) (if((i64.wrap (p.st+x)).tmod (min y.W (O 16))).toNat=14 then x_3 else B.a14) (if((i64.wrap (p.st+x)).tmod (min y.W (O 16))).toNat=15 then x_3 else B.a15)).get (↑(min y.W (O 16)).toNat:Int) p.w (dr p.st (↑(min y.W (O 16)).toNat:Int)) (min y.W (O 16)).toNat).fst*O 64)+(zas (A16.mk (if((i64.wrap (p.st+x)).tmod (min y.W (O 16))).toNat=0 then x_3 else B.a0) (if((i64.wrap (p.st+x)).tmod (min y.W (O 16))).toNat=1 then x_3 else B.a1) (if((i64.wrap (p.st+x)).tmod (min y.W (O 16))).toNat=2 then x_3 else B.a2) (if((i64.wrap (p.st+x)).tmod (min y.W (O 16))).toNat=3 then x_3 else B.a3) (if((i64.wrap (p.st+x)).tmod (min y.W (O 16))).toNat=4 then x_3 else B.a4) (if((i64.wrap (p.st+x)).tmod (min y.W (O 16))).toNat=5 then x_3 else B.a5) (if((i64.wrap (p.st+x)).tmod (min y.W (O 16))).toNat=6 then x_3 else B.a6) (if((i64.wrap (p.st+x)).tmod (min y.W (O 16))).toNat=7 then x_3 else B.a7) (if((i64.wrap (p.st+x)).tmod (min y.W (O 16))).toNat=8 then x_3 else B.a8) (if((i64.wrap (p.st+x)).tmod (min y.W (O 16))).toNat=9 then x_3 else B.a9) (if((i64.wrap (p.st+x)).tmod (min y.W (O 16))).toNat=10 then x_3 else B.a10) (if((i64.wrap (p.st+x)).tmod (min y.W (O 16))).toNat=11 then x_3 else B.a11) (if((i64.wrap (p.st+x)).tmod (min y.W (O 16))).toNat=12 then x_3 else B.a12) (if((i64.wrap (p.st+x)).tmod (min y.W (O 16))).toNat=13 then x_3 else B.a13) (if((i64.wrap (p.st+x)).tmod (min y.W (O 16))).toNat=14 then x_3 else B.a14) (if((i64.wrap (p.st+x)).tmod (min y.W (O 16))).toNat=15 then x_3 else B.a15)).get (↑(min y.W (O 16)).toNat:Int) p.w (dr p.st (↑(min y.W (O 16)).toNat:Int)) (min y.W (O 16)).toNat).snd)=i64.wrap (i64.wrap ((zas (A16.mk (if((i64.wrap (p.st+x)).tmod (min y.W (O 16))).toNat=0 then x_3 else B.a0) (if((i64.wrap (p.st+x)).tmod (min y.W (O 16))).toNat=1 then x_3 else B.a1) (if((i64.wrap (p.st+x)).tmod (min y.W (O 16))).toNat=2 then x_3 else B.a2) (if((i64.wrap (p.st+x)).tmod (min y.W (O 16))).toNat=3 then x_3 else B.a3) (if((i64.wrap (p.st+x)).tmod (min y.W (O 16))).toNat=4 then x_3 else B.a4) (if((i64.wrap (p.st+x)).tmod (min y.W (O 16))).toNat=5 then x_3 else B.a5) (if((i64.wrap (p.st+x)).tmod (min y.W (O 16))).toNat=6 then x_3 else B.a6) (if((i64.wrap (p.st+x)).tmod (min y.W (O 16))).toNat=7 then x_3 else B.a7) (if((i64.wrap (p.st+x)).tmod (min y.W (O 16))).toNat=8 then x_3 else B.a8) (if((i64.wrap (p.st+x)).tmod (min y.W (O 16))).toNat=9 then x_3 else B.a9) (if((i64.wrap (p.st+x)).tmod (min y.W (O 16))).toNat=10 then x_3 else B.a10) (if((i64.wrap (p.st+x)).tmod (min y.W (O 16))).toNat=11 then x_3 else B.a11) (if((i64.wrap (p.st+x)).tmod (min y.W (O 16))).toNat=12 then x_3 else B.a12) (if((i64.wrap (p.st+x)).tmod (min y.W (O 16))).toNat=13 then x_3 else B.a13) (if((i64.wrap (p.st+x)).tmod (min y.W (O 16))).toNat=14 then x_3 else B.a14) (if((i64.wrap (p.st+x)).tmod (min y.W (O 16))).toNat=15 then x_3 else B.a15)).get (↑(min y.W (O 16)).toNat:Int) p.w (dr p.st (↑(min y.W (O 16)).toNat:Int)) (min y.W (O 16)).toNat).fst*O 64)+(zas (A16.mk (if((i64.wrap (p.st+x)).tmod (min y.W (O 16))).toNat=0 then x_3 else B.a0) (if((i64.wrap (p.st+x)).tmod (min y.W (O 16))).toNat=1 then x_3 else B.a1) (if((i64.wrap (p.st+x)).tmod (min y.W (O 16))).toNat=2 then x_3 else B.a2) (if((i64.wrap (p.st+x)).tmod (min y.W (O 16))).toNat=3 then x_3 else B.a3) (if((i64.wrap (p.st+x)).tmod (min y.W (O 16))).toNat=4 then x_3 else B.a4) (if((i64.wrap (p.st+x)).tmod (min y.W (O 16))).toNat=5 then x_3 else B.a5) (if((i64.wrap (p.st+x)).tmod (min y.W (O 16))).toNat=6 then x_3 else B.a6) (if((i64.wrap (p.st+x)).tmod (min y.W (O 16))).toNat=7 then x_3 else B.a7) (if((i64.wrap (p.st+x)).tmod (min y.W (O 16))).toNat=8 then x_3 else B.a8) (if((i64.wrap (p.st+x)).tmod (min y.W (O 16))).toNat=9 then x_3 else B.a9) (if((i64.wrap (p.st+x)).tmod (min y.W (O 16))).toNat=10 then x_3 else B.a10) (if((i64.wrap (p.st+x)).tmod (min y.W (O 16))).toNat=11 then x_3 else B.a11) (if((i64.wrap (p.st+x)).tmod (min y.W (O 16))).toNat=12 then x_3 else B.a12) (if((i64.wrap (p.st+x)).tmod (min y.W (O 16))).toNat=13 then x_3 else B.a13) (if((i64.wrap (p.st+x)).tmod (min y.W (O 16))).toNat=14 then x_3 else B.a14) (if((i64.wrap (p.st+x)).tmod (min y.W (O 16))).toNat=15 then x_3 else B.a15)).get (↑(min y.W (O 16)).toNat:Int) p.w (dr p.st (↑(min y.W (O 16)).toNat:Int)) (min y.W (O 16)).toNat).snd)) (nN [qE p.w,qE p.b,qE p.st,qE x_4] (qPss1 p x y x_3 B n cap x_2)))))))))))))))))))))))))))))))))))))))))))))):=by kernel_rfl
abbrev putA(A:A16)(k:Nat)(x:Int):A16:=⟨if k=0 then x else A.a0,if k=1 then x else A.a1,if k=2 then x else A.a2,if k=3 then x else A.a3,if k=4 then x else A.a4,if k=5 then x else A.a5,if k=6 then x else A.a6,if k=7 then x else A.a7,if k=8 then x else A.a8,if k=9 then x else A.a9,if k=10 then x else A.a10,if k=11 then x else A.a11,if k=12 then x else A.a12,if k=13 then x else A.a13,if k=14 then x else A.a14,if k=15 then x else A.a15⟩
theorem zgu{A:A16}{k:Nat}{x:Int}{j:Nat}(h:j<16):(putA A k x).get j=if k=j then x else A.get j:=by
 rcases(show j=0\/j=1\/j=2\/j=3\/j=4\/j=5\/j=6\/j=7\/j=8\/j=9\/j=10\/j=11\/j=12\/j=13\/j=14\/j=15 by omega) with rfl|rfl|rfl|rfl|rfl|rfl|rfl|rfl|rfl|rfl|rfl|rfl|rfl|rfl|rfl|rfl<;>rfl
abbrev mW(y:Ly):Int:=min y.W (O 16)
abbrev vP(y:Ly)(s n1:Int):Int:=(i64.wrap (s+n1)).tmod (mW y)
def stP(p:Pr)(d M:Int):Int:=bif p.b then p.st else dr d M
abbrev rcP(y:Ly)(A:A16)(w s:Int):Int×Int:=zas A.get ((mW y).toNat:Int) w (dr s ((mW y).toNat:Int)) (mW y).toNat
def psO(y:Ly)(n:Nat)(d:Int)(p:Pr)(B:A16)(m:Mm)(r:Ps):Prop:=
  (p.e=true->r=⟨true,p,B,m⟩)/\
  (p.e=false->∃s n1,s=stP p d (mW y)/\n1=nxP s p.nx p.w (mW y)/\
    ((mW y<=n1/\r=⟨true,⟨true,2,0,p.w,true,s,n1⟩,B,m⟩)\/
     (n1<mW y/\∃a m' x n2,a=atM (vP y s n1) y.W y.bm (O 1)/\m'=m.acc n (O 1) a (m.val n a)/\x=m.val n a/\n2=nxP s (i64.wrap (n1+O 1)) p.w (mW y)/\
       ((n2<mW y/\r=⟨false,⟨p.e,p.co,p.va,p.w,true,s,n2⟩,putA B (vP y s n1).toNat x,m'⟩)\/
        (mW y<=n2/\((rcP y (putA B (vP y s n1).toNat x) p.w s).1<0/\r=⟨true,⟨true,2,0,p.w,true,s,n2⟩,putA B (vP y s n1).toNat x,m'⟩\/
          ¬(rcP y (putA B (vP y s n1).toNat x) p.w s).1<0/\r=⟨true,⟨true,1,i64.wrap (i64.wrap ((rcP y (putA B (vP y s n1).toNat x) p.w s).1*O 64)+(rcP y (putA B (vP y s n1).toNat x) p.w s).2),p.w,true,s,n2⟩,putA B (vP y s n1).toNat x,m'⟩))))))
def zc8(y:Ly)(p:Pr)(B:A16)(m:Mm):Prop:=(1<=y.W/\0<=y.bm/\y.bm<=1000)/\(p.b=true->0<=p.st/\p.st<mW y)/\(0<=p.nx/\p.nx<=100)/\(∀e,0<=m.g e/\m.g e<=18446744073709551615)/\∀j,j<16->0<=B.get j/\B.get j<=18446744073709551615
section
variable {y:Ly} {n:Nat} {d s n1 n2 a x w st nx M:Int} {p:Pr} {B:A16} {m m':Mm} {b':Bool}
theorem st_f(h:(!p.b)=true)(hx:x=dr d M):x=stP p d M:=by
 unfold stP
 rw[hx]
 cases hb:p.b
 ·rfl
 ·rw[hb]at h;cases h
theorem st_t(h:(!p.b)=false):p.st=stP p d M:=by
 unfold stP
 cases hb:p.b
 ·rw[hb]at h;cases h
 ·rfl
theorem b_t(h:(!p.b)=false):p.b=true:=by
 cases hb:p.b
 ·rw[hb]at h;cases h
 ·rfl
theorem psO_e(h:p.e=true):psO y n d p B m ⟨true,p,B,m⟩:=⟨fun _=>rfl,fun h2=>(by rw[h]at h2;cases h2)⟩
theorem psO_0(he:p.e=false)(hs:s=stP p d (mW y))(hb:b'=true)(hn:n1=nxP s p.nx p.w (mW y))(h:decide (n1 >= mW y)=true):psO y n d p B m ⟨true,⟨true,O 2,O 0,p.w,b',s,n1⟩,B,m⟩:=
 ⟨fun h2=>(by rw[he]at h2;cases h2),fun _=>⟨s,n1,hs,hn,.inl ⟨of_decide_eq_true h,by rw[hb];rfl⟩⟩⟩
theorem psO_1(he:p.e=false)(hs:s=stP p d (mW y))(hb:b'=true)(hn:n1=nxP s p.nx p.w (mW y))(h:decide (n1 >= mW y)=false)(ha:a=atM (vP y s n1) y.W y.bm (O 1))(hm:m'=m.acc n (O 1) a (m.val n a))(hx:x=m.val n a)(h2:n2=nxP s (i64.wrap (n1+O 1)) p.w (mW y))(hd:(!decide (n2 >= mW y))=true):
  psO y n d p B m ⟨false,⟨p.e,p.co,p.va,p.w,b',s,n2⟩,putA B (vP y s n1).toNat x,m'⟩:=
 ⟨fun h2=>(by rw[he]at h2;cases h2),fun _=>⟨s,n1,hs,hn,.inr ⟨Int.not_le.1 (of_decide_eq_false h),a,m',x,n2,ha,hm,hx,h2,.inl ⟨Int.not_le.1 (of_decide_eq_false (by simpa using hd)),by rw[hb]⟩⟩⟩⟩
theorem psO_2(he:p.e=false)(hs:s=stP p d (mW y))(hb:b'=true)(hn:n1=nxP s p.nx p.w (mW y))(h:decide (n1 >= mW y)=false)(ha:a=atM (vP y s n1) y.W y.bm (O 1))(hm:m'=m.acc n (O 1) a (m.val n a))(hx:x=m.val n a)(h2:n2=nxP s (i64.wrap (n1+O 1)) p.w (mW y))(hd:(!decide (n2 >= mW y))=false)
  (hr:decide ((rcP y (putA B (vP y s n1).toNat x) p.w s).1<O 0)=true):
  psO y n d p B m ⟨true,⟨true,O 2,O 0,p.w,b',s,n2⟩,putA B (vP y s n1).toNat x,m'⟩:=
 ⟨fun h2=>(by rw[he]at h2;cases h2),fun _=>⟨s,n1,hs,hn,.inr ⟨Int.not_le.1 (of_decide_eq_false h),a,m',x,n2,ha,hm,hx,h2,.inr ⟨of_decide_eq_true (by simpa using hd),.inl ⟨of_decide_eq_true hr,by rw[hb];rfl⟩⟩⟩⟩⟩
theorem psO_3(he:p.e=false)(hs:s=stP p d (mW y))(hb:b'=true)(hn:n1=nxP s p.nx p.w (mW y))(h:decide (n1 >= mW y)=false)(ha:a=atM (vP y s n1) y.W y.bm (O 1))(hm:m'=m.acc n (O 1) a (m.val n a))(hx:x=m.val n a)(h2:n2=nxP s (i64.wrap (n1+O 1)) p.w (mW y))(hd:(!decide (n2 >= mW y))=false)
  (hr:decide ((rcP y (putA B (vP y s n1).toNat x) p.w s).1<O 0)=false):
  psO y n d p B m ⟨true,⟨true,O 1,i64.wrap (i64.wrap ((rcP y (putA B (vP y s n1).toNat x) p.w s).1*O 64)+(rcP y (putA B (vP y s n1).toNat x) p.w s).2),p.w,b',s,n2⟩,putA B (vP y s n1).toNat x,m'⟩:=
 ⟨fun h2=>(by rw[he]at h2;cases h2),fun _=>⟨s,n1,hs,hn,.inr ⟨Int.not_le.1 (of_decide_eq_false h),a,m',x,n2,ha,hm,hx,h2,.inr ⟨of_decide_eq_true (by simpa using hd),.inr ⟨of_decide_eq_false hr,by rw[hb];rfl⟩⟩⟩⟩⟩
theorem nxP_b:nx<=nxP st nx w M/\nxP st nx w M<=nx+1:=by
 unfold nxP
 split<;>omega
theorem mW_b(h:zc8 y p B m):1<=mW y/\mW y<=16/\mW y<=y.W:=by
 have:=h.1.1
 show 1<=min y.W 16/\min y.W 16<=16/\min y.W 16<=y.W
 omega
theorem mW_m(h:zc8 y p B m):mW y<=O 9223372036854775807:=by have:=mW_b h;show mW y<=9223372036854775807;omega
theorem mW_0(h:zc8 y p B m):mW y≠O 0:=by have:=mW_b h;show mW y≠0;omega
theorem mW_6(h:zc8 y p B m):O 0<=mW y/\mW y<=((16:Nat):Int):=by have:=mW_b h;show 0<=mW y/\mW y<=16;omega
theorem stP_b(h:zc8 y p B m):0<=stP p d (mW y)/\stP p d (mW y)<mW y:=by
 unfold stP
 cases hb:p.b
 ·have:=mW_b h
  exact dr_b (by omega)
 ·exact h.2.1 hb
theorem vP_e(h:zc8 y p B m)(hs:s=stP p d (mW y))(hn:n1=nxP s p.nx p.w (mW y)):vP y s n1=(s+n1) % mW y:=by
 have h1:=stP_b (d:=d) h
 have h2:=nxP_b (st:=s) (nx:=p.nx) (w:=p.w) (M:=mW y)
 have h3:=h.2.2.1
 have h4:=mW_b h
 show(i64.wrap (s+n1)).tmod (mW y)=_
 rw[w64 (by omega),Int.tmod_eq_emod_of_nonneg (by omega)]
theorem vP_b(h:zc8 y p B m)(hs:s=stP p d (mW y))(hn:n1=nxP s p.nx p.w (mW y)):O 0<=vP y s n1/\vP y s n1<((16:Nat):Int):=by
 have h4:=mW_b h
 rw[vP_e h hs hn]
 have h1:=Int.emod_nonneg (s+n1) (show mW y≠0 by omega)
 have h2:=Int.emod_lt_of_pos (s+n1) (show 0<mW y by omega)
 show 0<=(s+n1) % mW y/\(s+n1) % mW y<16
 omega
theorem vP_n(h:zc8 y p B m)(hs:s=stP p d (mW y))(hn:n1=nxP s p.nx p.w (mW y)):(vP y s n1).toNat<16:=by
 have:=vP_b h hs hn
 have h0:0<=vP y s n1:=this.1
 have h1:vP y s n1<16:=this.2
 omega
theorem okA_p(h:zc8 y p B m)(hs:s=stP p d (mW y))(hn:n1=nxP s p.nx p.w (mW y)):okAtT (vP y s n1) y.W y.bm (O 1):=by
 have:=vP_b h hs hn
 have h0:0<=vP y s n1:=this.1
 have h1:vP y s n1<16:=this.2
 have h2:=h.1
 refine⟨fun _ _=>?_,h2.2.1,by omega⟩
 show 0<=vP y s n1*1/\vP y s n1*1<=1000000
 omega
theorem okPa_0(h:zc8 y p B m)(hs:s=stP p d (mW y)):okPa ⟨p.e,p.co,p.va,p.w,true,s,p.nx⟩ (mW y):=by
 have h1:=stP_b (d:=d) h
 have h3:=h.2.2.1
 have h4:=mW_b h
 exact⟨h4.1,by omega,by show 0<=s;omega,by show s<=1000;omega,h3.1,by show p.nx<=1000;omega⟩
theorem okPa_t(h:zc8 y p B m)(hs:p.st=stP p d (mW y)):okPa p (mW y):=by
 have h1:=stP_b (d:=d) h
 have h3:=h.2.2.1
 have h4:=mW_b h
 exact⟨h4.1,by omega,by omega,by omega,h3.1,by omega⟩
theorem okPa_1(h:zc8 y p B m)(hs:s=stP p d (mW y))(hn:n1=nxP s p.nx p.w (mW y)):okPa ⟨p.e,p.co,p.va,p.w,b',s,i64.wrap (n1+O 1)⟩ (mW y):=by
 have h1:=stP_b (d:=d) h
 have h2:=nxP_b (st:=s) (nx:=p.nx) (w:=p.w) (M:=mW y)
 have h3:=h.2.2.1
 have h4:=mW_b h
 have e:i64.wrap (n1+O 1)=n1+1:=w64 (by show _<=n1+1/\n1+1<=_;omega)
 rw[e]
 exact⟨h4.1,by omega,by show 0<=s;omega,by show s<=1000;omega,by show 0<=n1+1;omega,by show n1+1<=1000;omega⟩
theorem val_w(h:zc8 y p B m):0<=m.val n a/\m.val n a<=18446744073709551615:=by
 unfold Mm.val
 cases inb n a
 ·exact⟨Int.le_refl 0,(by decide:(0:Int)<=18446744073709551615)⟩
 ·exact h.2.2.2.1 _
theorem get_w(h:zc8 y p B m)(hx:x=m.val n a)(k:Nat):(mW y).toNat<=16/\∀j,j<(mW y).toNat->O 0<=(putA B k x).get j/\(putA B k x).get j<=O 18446744073709551615:=by
 have h4:=mW_b h
 refine⟨by omega,fun j hj=>?_⟩
 rw[zgu (by omega)]
 split
 ·rw[hx];exact val_w h
 ·exact h.2.2.2.2 j (by omega)
end
theorem psO_ex{y:Ly}{n:Nat}{d:Int}{p:Pr}{A:A16}{m:Mm}:∃r,psO y n d p A m r:=by
 by_cases he:p.e=true
 ·exact⟨_,psO_e he⟩
 ·have he:p.e=false:=by simpa using he
  by_cases h1:nxP (stP p d (mW y)) p.nx p.w (mW y) >= mW y
  ·exact⟨_,psO_0 he rfl rfl rfl (decide_eq_true h1)⟩
  ·by_cases h2:nxP (stP p d (mW y)) (i64.wrap (nxP (stP p d (mW y)) p.nx p.w (mW y)+O 1)) p.w (mW y) >= mW y
   ·by_cases h3:(rcP y (putA A (vP y (stP p d (mW y)) (nxP (stP p d (mW y)) p.nx p.w (mW y))).toNat (m.val n (atM (vP y (stP p d (mW y)) (nxP (stP p d (mW y)) p.nx p.w (mW y))) y.W y.bm (O 1)))) p.w (stP p d (mW y))).1<O 0
    ·exact⟨_,psO_2 he rfl rfl rfl (decide_eq_false h1) rfl rfl rfl rfl (by rw[decide_eq_true h2];rfl) (decide_eq_true h3)⟩
    ·exact⟨_,psO_3 he rfl rfl rfl (decide_eq_false h1) rfl rfl rfl rfl (by rw[decide_eq_true h2];rfl) (decide_eq_false h3)⟩
   ·exact⟨_,psO_1 he rfl rfl rfl (decide_eq_false h1) rfl rfl rfl rfl (by rw[decide_eq_false h2];rfl)⟩
theorem vhDw{d n:Int}(h:n<=9223372036854775807):zad (vDw d n):=by
 refine zad.pr (vDw_eq ..) ?_
 by_cases hn:n<1
 ·have e:dr d n=0:=by unfold dr;rw[if_pos hn]
  rw[e]
  (with_reducible repeat' first|exact V.okI|refine V.brT ?_|refine V.brF ?_|refine V.brI ?_ ?_|refine V.anyI ?_|refine nN_h rfl ?_|refine V.needI ?_ ?_|intro _)
  all_goals (simp only[decide_eq_true_eq,decide_eq_false_iff_not,Int.ofNat_eq_natCast,Bool.not_eq_true',Bool.not_eq_false',ge_iff_le,gt_iff_lt,Bool.and_eq_true,Bool.or_eq_true,Bool.not_eq_true,Bool.and_eq_false_iff]at *)
  all_goals first|omega|rfl|trace_state
 ·have e:dr d n=d % n:=by unfold dr;rw[if_neg hn]
  have e2:=Int.emod_def d n
  have e3:=Int.emod_nonneg d (show n≠0 by omega)
  have e4:=Int.emod_lt_of_pos d (show 0<n by omega)
  have e5:d.tmod n=d % n\/(d.tmod n=d % n-n):=by
   rw[Int.tmod_eq_emod]
   split
   ·left;simp
   ·right;omega
  have e6:d.tmod n<0->i64.wrap (d.tmod n+n)=d % n:=fun hlt=>by
   rcases e5 with e5|e5
   ·omega
   ·rw[w64 (by omega)];omega
  have e7:¬d.tmod n<0->d.tmod n=d % n:=fun hlt=>by
   rcases e5 with e5|e5<;>omega
  rw[e]
  (with_reducible repeat' first|exact V.okI|refine V.brT ?_|refine V.brF ?_|refine V.brI ?_ ?_|refine V.anyI ?_|refine nN_h rfl ?_|refine V.needI ?_ ?_|intro _)
  all_goals (simp only[decide_eq_true_eq,decide_eq_false_iff_not,Int.ofNat_eq_natCast,Bool.not_eq_true',Bool.not_eq_false',ge_iff_le,gt_iff_lt,Bool.and_eq_true,Bool.or_eq_true,Bool.not_eq_true,Bool.and_eq_false_iff]at *)
  all_goals first|omega|(exact e6 (by omega))|(exact e7 (by omega))|rfl|trace_state
section
variable {p:Pr} {W:Int}
theorem nx_y(h:okPa p W)(h1:decide (p.nx<W)=true)(h2:((i64.wrap (p.st+p.nx)).tmod W == p.w)=true):i64.wrap (p.nx+O 1)=nxP p.st p.nx p.w W:=by
 obtain⟨a,b,c,d,e,f⟩:=h
 have h1:=of_decide_eq_true h1
 have h2:=eq_of_beq h2
 rw[w64 (by omega),Int.tmod_eq_emod_of_nonneg (by omega)]at h2
 unfold nxP
 rw[if_pos ⟨h1,h2⟩]
 exact w64 (by show _<=p.nx+1/\p.nx+1<=_;omega)
theorem nx_n(h:okPa p W)(h2:((i64.wrap (p.st+p.nx)).tmod W == p.w)=false):p.nx=nxP p.st p.nx p.w W:=by
 obtain⟨a,b,c,d,e,f⟩:=h
 rw[w64 (by omega),Int.tmod_eq_emod_of_nonneg (by omega)]at h2
 unfold nxP
 rw[if_neg fun q=>by rw[q.2]at h2;simp at h2]
theorem nx_l(h1:decide (p.nx<W)=false):p.nx=nxP p.st p.nx p.w W:=by
 have h1:=of_decide_eq_false h1
 unfold nxP
 rw[if_neg fun q=>h1 q.1]
theorem W_0(h:okPa p W):W≠O 0:=by have:=h.1;show W≠0;omega
end
theorem vhPa{p:Pr}{B:A16}{W:Int}(h:okPa p W):zad (vPa p B W):=by
 refine zad.pr (vPa_eq ..) ?_
 (with_reducible repeat' first|exact V.okI|refine V.brT ?_|refine V.brF ?_|refine V.brI ?_ ?_|refine V.anyI ?_|refine nN_h rfl ?_|refine V.needI ?_ ?_|intro _)
 all_goals first
  | exact W_0 h
  | exact nx_y h ‹_› ‹_›
  | exact nx_n h ‹_›
  | exact nx_l ‹_›
  | trace_state
theorem vhPs{y:Ly}{n cap:Nat}{d:Int}{p:Pr}{B:A16}{m:Mm}(h:p.e=false->zc8 y p B m):zad (vPs y n cap d p B m (psO y n d p B m)):=by
 refine zad.pr (vPs_eq ..) ?_
 (with_reducible repeat' first|exact V.okI|refine V.brT ?_|refine V.brF ?_|refine V.brI ?_ ?_|refine V.anyI ?_|refine nN_h rfl ?_|refine V.needI ?_ ?_|intro _)
 all_goals first
  | rfl
  | exact mW_m (h ‹_›)
  | exact mW_0 (h ‹_›)
  | exact mW_6 (h ‹_›)
  | exact okPa_0 (h ‹_›) (st_f ‹_› ‹_›)
  | exact okPa_t (h ‹_›) (st_t (d:=d) ‹_›)
  | exact okPa_1 (h ‹_›) (st_f ‹_› ‹_›) ‹_›
  | exact okPa_1 (h ‹_›) (st_t (d:=d) ‹_›) ‹_›
  | exact okA_p (h ‹_›) (st_f ‹_› ‹_›) ‹_›
  | exact okA_p (h ‹_›) (st_t (d:=d) ‹_›) ‹_›
  | exact vP_b (h ‹_›) (st_f ‹_› ‹_›) ‹_›
  | exact vP_b (h ‹_›) (st_t (d:=d) ‹_›) ‹_›
  | exact vP_n (h ‹_›) (st_f ‹_› ‹_›) ‹_›
  | exact vP_n (h ‹_›) (st_t (d:=d) ‹_›) ‹_›
  | exact get_w (h ‹_›) ‹_› _
  | exact psO_e ‹_›
  | exact psO_0 ‹_› (st_f ‹_› ‹_›) rfl ‹_› ‹_›
  | exact psO_0 ‹_› (st_t ‹_›) (b_t ‹_›) ‹_› ‹_›
  | exact psO_1 ‹_› (st_f ‹_› ‹_›) rfl ‹_› ‹_› ‹_› ‹_› ‹_› ‹_› ‹_›
  | exact psO_1 ‹_› (st_t ‹_›) (b_t ‹_›) ‹_› ‹_› ‹_› ‹_› ‹_› ‹_› ‹_›
  | exact psO_2 ‹_› (st_f ‹_› ‹_›) rfl ‹_› ‹_› ‹_› ‹_› ‹_› ‹_› ‹_› ‹_›
  | exact psO_2 ‹_› (st_t ‹_›) (b_t ‹_›) ‹_› ‹_› ‹_› ‹_› ‹_› ‹_› ‹_› ‹_›
  | exact psO_3 ‹_› (st_f ‹_› ‹_›) rfl ‹_› ‹_› ‹_› ‹_› ‹_› ‹_› ‹_› ‹_›
  | exact psO_3 ‹_› (st_t ‹_›) (b_t ‹_›) ‹_› ‹_› ‹_› ‹_› ‹_› ‹_› ‹_› ‹_›
  | trace_state
noncomputable section
theorem cDw_ok:zab P fDw cDw:=zac fun args H=>by
 unfold cDw
 simp only[fN_eq]
 repeat' split
 all_goals first|exact .inl ⟨_,rfl⟩|exact .inr ⟨_,_,_,_,_,rfl,zae zaj.nil fun h=>vhDw h⟩
theorem cPa_ok:zab P fPa cPa:=zac fun args H=>by
 unfold cPa
 simp only[fN_eq]
 repeat' split
 all_goals first|exact .inl ⟨_,rfl⟩|exact .inr ⟨_,_,_,_,_,rfl,zae zaj.nil fun h=>vhPa h⟩
theorem cnPs_ok:zaj P cnPs:=.add cDw_ok (.add cPa_ok (.add cChO_ok (conT_ok zaj.nil)))
def outPs(y:Ly)(n cap:NV)(d:Int)(p:Pr)(B:A16)(m:Mm):Out (SV×Hp):=.need (p.e=false->zc8 y p B m) (.any Ps (psO y n.v d p B m) fun r=>.leaf (svB r.b,⟨(3,prB r.p r.B)::memP n cap r.m,5,fun _=>True⟩))
def rdLyP(k:Nat)(h:HL):Option Ly:=match zfl k 11 h,zfl k 12 h,zfl k 13 h,zfl k 14 h,zfl k 15 h,zfl k 16 h,zfl k 17 h,zfl k 18 h,zfl k 19 h,zfl k 20 h,zfl k 21 h with
 | some a,some b,some c,some d,some e,some f,some g,some i,some j,some l,some o=>some ⟨a,b,c,d,e,f,g,i,j,l,o⟩
 | _,_,_,_,_,_,_,_,_,_,_=>none
def cPs:List SV->Hp->Out (SV×Hp):=fun args H=>match args with
 | [.c (.ptr kp _ _ _ _),.c (.ptr ke _ _ _ _)]=>fN kp fun kp=>fN ke fun ke=>fN (scK (zax ke 22 H.h)) fun km=>fN (scK (zax ke 23 H.h)) fun kk=>match rdPr kp H.h,rdLyP ke H.h,rdMm H.h km,zfl kk 1 H.h with
  | some (p,B),some y,some x,some d=>fN x.kc fun kc=>useP [ke,km,kc,kp,kk] 5 argsPs (hPs y (.s x.len.v) (.s x.cap.v) d p B x.m) (outPs y (.s x.len.v) (.s x.cap.v) d p B x.m) args H
  | _,_,_,_=>.bad 438
 | _=>.bad 439
theorem cPs_ok:zab P fPs cPs:=zac fun args H=>by
 unfold cPs
 simp only[fN_eq]
 repeat' split
 all_goals first|exact .inl ⟨_,rfl⟩|exact .inr ⟨_,_,_,_,_,rfl,zae cnPs_ok fun h=>vhPs h⟩
end
end Go.Proofs.YtabiechfpefjhaaGreat.Md
