import Derived.Test.YtabiechfpefjhaaGreatMEgA
set_option maxHeartbeats 64000000
set_option linter.unusedVariables false
set_option linter.unusedSimpArgs false
set_option maxRecDepth 100000
open Go.IntKind (i64 u64)
open Int renaming ofNat -> O, ofNat_eq_natCast -> zz, natCast_nonneg -> zp
open Nat renaming le_refl -> Z, zero_le -> zh, zero_add -> z8, le_trans -> zo
open Bool renaming and_eq_true -> zx, not_eq_true' -> z7, not_eq_false' -> za, or_eq_true -> zf, not_eq_true -> zg, and_eq_false_iff -> zd
open Go.Proofs.YtabiechfpefjhaaGreat.Sx.V renaming need -> U, br -> zj, ok -> zw, any -> ze, needI -> z9, okI -> zk, brT -> zn, brF -> zm, brI -> zl, anyI -> zi
namespace Go.Proofs.YtabiechfpefjhaaGreat.En
open Go Go.RowKit Sx Cn Dc Ck Vc Md
abbrev g212(a0:Ep)(a1:Nat)(a2:Fk)(k:V):V:=U (∀(e:Nat),e<a0.fn->(if 0=0/\e=a1 then a1 else e)=e) (nN [qF a0.fn (aN a1 ((i64.wrap ((↑(a2.ll a1):Int)-O 1)).toNat) a2.ll),qF a0.fn (aN a1 (a2.lc a1) a2.lc)] (U (∀(i_1:Nat),(a2.lc i_1=if 0=0/\i_1=a1 then a2.lc a1 else a2.lc i_1)\/(if 0=0/\i_1=a1 then a2.lc a1 else a2.lc i_1)=0) (U (∀(i_1:Nat),(upto a0.fn (aN a1 ((i64.wrap ((↑(a2.ll a1):Int)-O 1)).toNat) a2.ll) i_1<=if 0=0/\i_1=a1 then a2.lc a1 else a2.lc i_1)/\upto a0.fn (aN a1 ((i64.wrap ((↑(a2.ll a1):Int)-O 1)).toNat) a2.ll) i_1<=upto a0.fn a2.ll i_1) (nN [(1,.pf (∀(i_1 e:Nat),e<upto a0.fn (aN a1 ((i64.wrap ((↑(a2.ll a1):Int)-O 1)).toNat) a2.ll) i_1->a2.ld i_1 e=a2.ld i_1 e) (by intros;rfl))] k))))
abbrev g39(a0:Ep)(a1:Fk)(l:LP):LP:=qF a0.fn a1.u::qF a0.fn a1.v::qF a0.fn a1.w::qF a0.fn a1.x::l
abbrev g299(a0:Ep)(a1:Fk)(l:LP):LP:=qF a0.fn a1.t::g39 a0 a1 l
abbrev gs3(i:Nat)(p:Ep)(s:Es)(Φ:Eo->Prop)(y2:Wa)(c:Cf):V:=g66 i p (g53 i p s.f (g312 i p (zj ((↑(if 0=0/\i=i then(i64.wrap ((↑(s.f.ll i):Int)-O 1)).toNat else s.f.ll i):Int) == O 0) (g104 Φ s y2.m s.f i y2 (nN [(2,.eqI 0 0)] (g61 c p y2.m s s.x (nN (g90 p s.f i (g126 p s.f i y2 (g299 p s.f []))) (g212 p i s.f (nN (g47 s []) zw)))))) (g103 Φ s y2.m s.f i y2 (g61 c p y2.m s s.x (nN (g90 p s.f i (g126 p s.f i y2 (g299 p s.f []))) (g212 p i s.f (nN (g47 s []) zw))))))))
abbrev g48(a0:Rk)(a1:Int)(a2:Cf)(k:V):V:=U (0+(a0.p (0+a1.toNat)).toNat<a2.nP/\0+(a0.pc (0+a1.toNat)).toNat<a2.lenP (0+(a0.p (0+a1.toNat)).toNat)) (U (0+(a0.p (0+a1.toNat)).toNat<a2.nP/\0+(a0.pc (0+a1.toNat)).toNat<a2.lenP (0+(a0.p (0+a1.toNat)).toNat)) k)
abbrev g76(a0:Rk)(a1:Int)(a2:Cf)(k:V):V:=U (O 0<=a0.pc (0+a1.toNat)/\a0.pc (0+a1.toNat)<(↑(a2.lenP (0+(a0.p (0+a1.toNat)).toNat)):Int)) (g48 a0 a1 a2 k)
abbrev g86(a0:Rk)(a1:Int)(a2:Cf)(k:V):V:=g76 a0 a1 a2 (U (0+(a0.p (0+a1.toNat)).toNat<a2.nP/\0+(a0.pc (0+a1.toNat)).toNat<a2.lenP (0+(a0.p (0+a1.toNat)).toNat)) k)
abbrev g97(a0:Ep)(a1:Mm)(l:LP):LP:=g25 a0 a1 (qE a0.rc::l)
abbrev g144(a0:Ep)(a1:Fk)(l:LP):LP:=(1,.pf (∀(i e:Nat),i=0/\e<a0.fn->a1.kd e=a1.kd e) (by intros;rfl))::(1,.pf (∀(i e:Nat),i=0/\e<a0.fn->a1.ln e=a1.ln e) (by intros;rfl))::l
abbrev g145(a0:Ep)(a1:Fk)(l:LP):LP:=(1,.pf (∀(i e:Nat),i=0/\e<a0.fn->a1.qt e=a1.qt e) (by intros;rfl))::(1,.pf (∀(i e:Nat),i=0/\e<a0.fn->a1.qb e=a1.qb e) (by intros;rfl))::l
abbrev g146(a0:Ep)(a1:Fk)(l:LP):LP:=(1,.pf (∀(i e:Nat),i=0/\e<a0.fn->a1.qr e=a1.qr e) (by intros;rfl))::(1,.pf (∀(i e:Nat),i=0/\e<a0.fn->a1.qc e=a1.qc e) (by intros;rfl))::l
abbrev g147(a0:Ep)(a1:Fk)(l:LP):LP:=(1,.pf (∀(i e:Nat),i=0/\e<a0.fn->a1.ll e=a1.ll e) (by intros;rfl))::(1,.pf (∀(i e:Nat),i=0/\e<a0.fn->a1.lc e=a1.lc e) (by intros;rfl))::l
abbrev g150(a0:Ep)(a1:Fk)(l:LP):LP:=(1,.pf (∀(i e:Nat),i=0/\e<a0.fn->a1.a e=a1.a e) (by intros;rfl))::(1,.pf (∀(i e:Nat),i=0/\e<a0.fn->a1.b e=a1.b e) (by intros;rfl))::l
abbrev g151(a0:Ep)(a1:Fk)(l:LP):LP:=(1,.pf (∀(i e:Nat),i=0/\e<a0.fn->a1.d e=a1.d e) (by intros;rfl))::(1,.pf (∀(i e:Nat),i=0/\e<a0.fn->a1.i e=a1.i e) (by intros;rfl))::l
abbrev g152(a0:Ep)(a1:Fk)(l:LP):LP:=(1,.pf (∀(i e:Nat),i=0/\e<a0.fn->a1.j e=a1.j e) (by intros;rfl))::(1,.pf (∀(i e:Nat),i=0/\e<a0.fn->a1.n e=a1.n e) (by intros;rfl))::l
abbrev g153(a0:Ep)(a1:Fk)(l:LP):LP:=(1,.pf (∀(i e:Nat),i=0/\e<a0.fn->a1.t e=a1.t e) (by intros;rfl))::(1,.pf (∀(i e:Nat),i=0/\e<a0.fn->a1.u e=a1.u e) (by intros;rfl))::l
abbrev g154(a0:Ep)(a1:Fk)(l:LP):LP:=(1,.pf (∀(i e:Nat),i=0/\e<a0.fn->a1.v e=a1.v e) (by intros;rfl))::(1,.pf (∀(i e:Nat),i=0/\e<a0.fn->a1.w e=a1.w e) (by intros;rfl))::l
abbrev g156(a0:Int)(a1:Rk)(k:V):V:=U (0<1/\0+a0.toNat<a1.n) (U (0<1/\0+a0.toNat<a1.n) k)
abbrev g165(a0:Ep)(a1:Fk)(l:LP):LP:=(1,.pf (∀(i e:Nat),i=0/\e<a0.fn->a1.x e=a1.x e) (by intros;rfl))::(1,.pf (∀(i e:Nat),i=0/\e<a0.fn->e=e) (by intros;rfl))::l
abbrev g35(a0:Int)(a1:Rk)(k:V):V:=U (0+a0.toNat<a1.n) (U (0+a0.toNat<a1.n) k)
abbrev g190(a0:Int)(a1:Rk)(k:V):V:=g35 a0 a1 (U (0+a0.toNat<a1.n) k)
abbrev g220(a0:Int)(a1:Rk)(k:V):V:=U (0<1/\0+a0.toNat<a1.n) (zj (decide (a1.p (0+a0.toNat)<O 0)) (U (0<1/\0+a0.toNat<a1.n) (U (0<1/\0+a0.toNat<a1.n) (U (0<1/\0+a0.toNat<a1.n) (V.bad 104)))) k)
abbrev g231(a0:Int)(a1:Rk)(k:V):V:=g35 a0 a1 (g35 a0 a1 k)
abbrev g261(a0:Rk)(a1:Int)(a2:Cf)(k:V):V:=nN [(4,.lt2 0 1 0 1)] (zj (decide (a0.p (0+a1.toNat) >= (↑a2.nP:Int))) (U (0<1/\0+a1.toNat<a0.n) (U (0<1/\0+a1.toNat<a0.n) (U (0<1/\0+a1.toNat<a0.n) (V.bad 104)))) k)
abbrev g292(a0:Int)(a1:Rk)(k:V):V:=g231 a0 a1 (g35 a0 a1 k)
abbrev g310(a0:Fk)(a1:Nat)(k:Int->V):V:=nN [qX (a0.ld a1 (a0.ll a1-1))] (ze Int (fun (r:Int)=>r=a0.ld a1 (a0.ll a1-1)) fun v0=>k v0)
abbrev g315(a0:Rk)(a1:Int)(a2:Cf)(k:V):V:=U (O 0<=a0.p (0+a1.toNat)/\a0.p (0+a1.toNat)<(↑a2.nP:Int)) (U (0<1/\0+(a0.p (0+a1.toNat)).toNat<a2.nP) (U (0<1/\0+(a0.p (0+a1.toNat)).toNat<a2.nP) k))
abbrev g323(a0:Nat)(a1:Es)(k:V):V:=nN [qE a0] (U (a1.ne+1<=a1.ne+1) k)
abbrev g46(a0:Ep)(a1:Fk)(l:LP):LP:=qF a0.fn a1.n::qF a0.fn a1.t::g39 a0 a1 l
abbrev g206(a0:Ep)(a1:Fk)(l:LP):LP:=g63 a0 a1 (g46 a0 a1 l)
abbrev g304(a0:Ep)(a1:Fk)(a2:Nat)(l:LP):LP:=g90 a0 a1 a2 (g206 a0 a1 l)
abbrev g326(a0:Ep)(a1:Fk)(a2:Nat)(k:V):V:=nN (g304 a0 a1 a2 []) (g212 a0 a2 a1 k)
abbrev g346(a0:Ep)(a1:Fk)(a2:Nat)(k:V):V:=U (∀(i:Nat),i<a0.fn->a1.ll i<=upto a0.fn a1.ll i/\a1.ll i<=a1.lc i) (nN [(1,.pf (∀(i e:Nat),i<a0.fn/\e<a1.ll i->a1.ld i e=a1.ld i e) (by intros;rfl))] (U (a2<a0.fn/\1<=a1.ll a2/\a1.ll a2<=1000000) k))
abbrev g347(a0:Eo->Prop)(a1:Mm)(a2:Es)(a3:Rk)(a4:Nat)(a5:Fk)(a6:Nat)(k:V):V:=U (a0 (Eo.mk (Es.mk a1 a2.now a2.dr a3 a2.kc (a2.ne+1) a4 { a5 with ln:=aN a6 (O 1) a5.ln,ll:=aN a6 ((i64.wrap ((↑(a5.ll a6):Int)-O 1)).toNat) a5.ll,lc:=aN a6 (a5.lc a6) a5.lc }) false (O 0) (O 0))) (nN (g70 []) k)
abbrev g349(a0:Ep)(k:V):V:=nN [(1,.le 1 1)] (U (a0.fn<=a0.fn/\a0.fn<=a0.fc) k)
abbrev g366(a0:Eo->Prop)(a1:Mm)(a2:Es)(a3:Rk)(a4:Nat)(a5:Fk)(a6:Nat)(k:V):V:=U (a0 (Eo.mk (Es.mk a1 a2.now a2.dr a3 a2.kc (a2.ne+1) a4 { a5 with ln:=aN a6 (O 1) a5.ln,ll:=aN a6 ((i64.wrap ((↑(a5.ll a6):Int)-O 1)).toNat) a5.ll,lc:=aN a6 (a5.lc a6) a5.lc }) true (O 0) (O 0))) (nN [qE true] k)
theorem vRun_eq(c:Cf)(p:Ep)(s:Es)(i:Nat)(Φ:Eo->Prop):V.pr .z (vLf conLf gRun [] .nil c p s i Φ)=
 nN [qE i] (g349 p (nN (g144 p s.f (g145 p s.f (g146 p s.f (g150 p s.f (g151 p s.f (g152 p s.f (g153 p s.f (g154 p s.f (g165 p s.f (g147 p s.f [])))))))))) (g346 p s.f i (g310 s.f i fun y0=>g11 i p (zj (s.f.ln i == O 23) (lfE Φ c p (Eo.mk s true (O 4) (O 0))) (U (O 0<=y0/\y0<(↑s.x.n:Int)) (U (0+y0.toNat<s.x.n) (g11 i p (zj (s.f.ln i == O 2) (nN (g19 c (qE y0::(1,.eqI 3 3)::g71 c [])) (g77 y0 c fun y1=>g216 y1 c p s.m s s.x fun y2=>g190 y0 s.x (g11 i p (lfE Φ c p (Eo.mk { s with m:=y2.m,x:={ s.x with wt:=aN (0+y0.toNat) (-O 1) s.x.wt },f:={ s.f with ln:=aN i (O 1) s.f.ln }} false (O 0) (O 0)))))) (zj (s.f.ln i == O 3) (g190 y0 s.x (zj (s.x.lf (0+y0.toNat) == O 0) (nN [(3,.lt2 0 1 0 1)] (U (O 0<=y0/\y0<(↑s.x.n:Int)) (g156 y0 s.x (g220 y0 s.x (g261 s.x y0 c (nN [(4,.lt2 0 1 0 1)] (g315 s.x y0 c (g156 y0 s.x (U (0<1/\0+y0.toNat<s.x.n) (g86 s.x y0 c (g156 y0 s.x (g231 y0 s.x (g292 y0 s.x (zj ((if 0=0/\0+y0.toNat=0+y0.toNat then i64.wrap ((if 0=0/\0+y0.toNat=0+y0.toNat then c.iA (0+(s.x.p (0+y0.toNat)).toNat) (0+(s.x.pc (0+y0.toNat)).toNat) else s.x.lf (0+y0.toNat))-O 1) else if 0=0/\0+y0.toNat=0+y0.toNat then c.iA (0+(s.x.p (0+y0.toNat)).toNat) (0+(s.x.pc (0+y0.toNat)).toNat) else s.x.lf (0+y0.toNat)) == O 0) (g292 y0 s.x (g11 i p (lfE Φ c p (Eo.mk { s with x:={ s.x with pc:=aN (0+y0.toNat) (i64.wrap (s.x.pc (0+y0.toNat)+O 1)) s.x.pc,lf:=aN (0+y0.toNat) (i64.wrap ((if 0=0/\0+y0.toNat=0+y0.toNat then c.iA (0+(s.x.p (0+y0.toNat)).toNat) (0+(s.x.pc (0+y0.toNat)).toNat) else s.x.lf (0+y0.toNat))-O 1)) (aN (0+y0.toNat) (c.iA (0+(s.x.p (0+y0.toNat)).toNat) (0+(s.x.pc (0+y0.toNat)).toNat)) s.x.lf) },f:={ s.f with ln:=aN i (O 1) s.f.ln }} false (O 0) (O 0))))) (g11 i p (lfE Φ c p (Eo.mk { s with x:={ s.x with lf:=aN (0+y0.toNat) (i64.wrap ((if 0=0/\0+y0.toNat=0+y0.toNat then c.iA (0+(s.x.p (0+y0.toNat)).toNat) (0+(s.x.pc (0+y0.toNat)).toNat) else s.x.lf (0+y0.toNat))-O 1)) (aN (0+y0.toNat) (c.iA (0+(s.x.p (0+y0.toNat)).toNat) (0+(s.x.pc (0+y0.toNat)).toNat)) s.x.lf) },f:={ s.f with ln:=aN i (O 1) s.f.ln }} false (O 0) (O 0)))))))))))))))))) (g292 y0 s.x (g190 y0 s.x (zj ((if 0=0/\0+y0.toNat=0+y0.toNat then i64.wrap (s.x.lf (0+y0.toNat)-O 1) else s.x.lf (0+y0.toNat)) == O 0) (g292 y0 s.x (g11 i p (lfE Φ c p (Eo.mk { s with x:={ s.x with pc:=aN (0+y0.toNat) (i64.wrap (s.x.pc (0+y0.toNat)+O 1)) s.x.pc,lf:=aN (0+y0.toNat) (i64.wrap (s.x.lf (0+y0.toNat)-O 1)) s.x.lf },f:={ s.f with ln:=aN i (O 1) s.f.ln }} false (O 0) (O 0))))) (g11 i p (lfE Φ c p (Eo.mk { s with x:={ s.x with lf:=aN (0+y0.toNat) (i64.wrap (s.x.lf (0+y0.toNat)-O 1)) s.x.lf },f:={ s.f with ln:=aN i (O 1) s.f.ln }} false (O 0) (O 0))))))))) (zj (s.f.ln i == O 4) (g292 y0 s.x (g11 i p (lfE Φ c p (Eo.mk { s with x:={ s.x with pc:=aN (0+y0.toNat) (i64.wrap (s.x.pc (0+y0.toNat)+O 1)) s.x.pc },f:={ s.f with ln:=aN i (O 1) s.f.ln }} false (O 0) (O 0))))) (zj (s.f.ln i == O 10) (nN ((13,.lt2 0 1 0 1)::g19 c (qE y0::(1,.eqI 3 3)::g71 c [])) (g77 y0 c fun y1=>g17 i p (nN [qE y1,qE (u64.wrap (i64.wrap (s.f.j i+O 1)))] (g107 c p s.m s s.x (U (okW s.m/\wd (u64.wrap (i64.wrap (s.f.j i+O 1)))/\wd (O 0)) (nA (fun (p:Wa)=>okW p.m/\wd p.o/\(p.b=true->O 0<=y1)) fun y2=>g292 y0 s.x (g11 i p (g190 y0 s.x (g11 i p (lfE Φ c p (Eo.mk { s with m:=y2.m,x:={ s.x with pc:=aN (0+y0.toNat) (i64.wrap (s.x.pc (0+y0.toNat)+O 1)) s.x.pc,wt:=aN (0+y0.toNat) (s.f.j i) s.x.wt },f:={ s.f with ln:=aN i (O 11) s.f.ln }} false (O 0) (O 0)))))))))))) (zj (s.f.ln i == O 11) (nN (g19 c (qE y0::g243 c [])) (g77 y0 c fun y1=>nN [qE y1,(1,.eqI 3 3)] (g107 c p s.m s s.x (U (okW s.m/\wd (O 3)/\wd (O 0)) (g68 y1 i p fun y2=>lfE Φ c p (Eo.mk { s with m:=y2.m,f:={ s.f with ln:=aN i (O 12) s.f.ln }} false (O 0) (O 0))))))) (zj (s.f.ln i == O 12) (g262 i p c (nN (qE (s.f.j i)::(1,.eqI 2 2)::g71 c []) (U True (nA (fun (r:Int)=>r=-O 1\/O 0<=s.f.j i/\s.f.j i<c.T) fun y1=>nN [qE y1,(1,.eqI 0 0),qE (u64.wrap (i64.wrap (y0+O 1)))] (g89 c p s.m s s.x (U (okW s.m/\wd (O 0)/\wd (u64.wrap (i64.wrap (y0+O 1)))) (nA (fun (p:Wa)=>okW p.m/\wd p.o/\(p.b=true->O 0<=y1)) fun y2=>zj y2.b (g79 i p (nN [(1,.eqI 6 6),qE (s.f.a i),qE y0,qE (s.f.j i),(1,.eqI 0 0)] (g376 c p y2.m s s.x i fun y3=>lfE Φ c p (Eo.mk (Es.mk y2.m s.now s.dr s.x s.kc (s.ne+1) y3 { s.f with ln:=aN i (O 13) s.f.ln }) false (O 0) (O 0))))) (g11 i p (lfE Φ c p (Eo.mk { s with m:=y2.m,f:={ s.f with ln:=aN i (O 15) s.f.ln }} false (O 0) (O 0))))))))))) (zj (s.f.ln i == O 13) (nN (g19 c (qE y0::g265 c [])) (g77 y0 c fun y1=>g216 y1 c p s.m s s.x fun y2=>g93 i p (lfE Φ c p (Eo.mk { s with m:=y2.m,f:={ s.f with ln:=aN i (O 14) s.f.ln,t:=aN i (i64.wrap y2.o) s.f.t }} false (O 0) (O 0))))) (zj (s.f.ln i == O 15) (nN (g19 c (qE y0::g243 c [])) (g77 y0 c fun y1=>nN [qE y1,(1,.eqI 2 2)] (g107 c p s.m s s.x (U (okW s.m/\wd (O 2)/\wd (O 0)) (g68 y1 i p fun y2=>lfE Φ c p (Eo.mk { s with m:=y2.m,f:={ s.f with ln:=aN i (O 16) s.f.ln }} false (O 0) (O 0))))))) (zj (s.f.ln i == O 16) (nN (g19 c (qE y0::(1,.eqI 3 3)::g71 c [])) (g77 y0 c fun y1=>g216 y1 c p s.m s s.x fun y2=>g190 y0 s.x (g79 i p (nN [(1,.eqI 8 8),qE (s.f.a i),qE y0,qE (s.f.j i),(1,.eqI 0 0)] (g376 c p y2.m s s.x i fun y3=>lfE Φ c p (Eo.mk (Es.mk y2.m s.now s.dr { s.x with wt:=aN (0+y0.toNat) (-O 1) s.x.wt } s.kc (s.ne+1) y3 { s.f with ln:=aN i (O 1) s.f.ln }) false (O 0) (O 0))))))) (g11 i p (zj (s.f.ln i == O 17) (nN (g19 c (qE y0::g243 c [])) (g77 y0 c fun y1=>nN [qE y1,(1,.eqI 4 4)] (g107 c p s.m s s.x (U (okW s.m/\wd (O 4)/\wd (O 0)) (g68 y1 i p fun y2=>lfE Φ c p (Eo.mk { s with m:=y2.m,f:={ s.f with ln:=aN i (O 18) s.f.ln }} false (O 0) (O 0))))))) (zj (s.f.ln i == O 18) (nN (g19 c (qE y0::(1,.eqI 2 2)::g71 c [])) (g77 y0 c fun y1=>nN [qE y1,(1,.eqI 0 0),(1,.eqI 4294967296 4294967296)] (g89 c p s.m s s.x (U (okW s.m/\wd (O 0)/\wd (O 4294967296)) (g68 y1 i p fun y2=>nN ((1,.eqI 10 10)::qE (s.f.a i)::g129 y0 []) (g223 c p y2.m s s.x fun y3=>zj y2.b (g66 i p (g53 i p s.f (g312 i p (zj ((↑(if 0=0/\i=i then(i64.wrap ((↑(s.f.ll i):Int)-O 1)).toNat else s.f.ll i):Int) == O 0) (g366 Φ y2.m s s.x y3 s.f i (nN ((2,.eqI 0 0)::g34 c p y2.m (g41 s s.x p (qE (s.ne+1)::qE y3::g97 p y2.m []))) (g45 s.x s (nN (g57 p []) (g326 p s.f i (g323 y3 s zw)))))) (g347 Φ y2.m s s.x y3 s.f i (nN (g34 c p y2.m (g41 s s.x p (qE (s.ne+1)::qE y3::g97 p y2.m []))) (g45 s.x s (nN (g57 p []) (g326 p s.f i (g323 y3 s zw)))))))))) (g11 i p (lfE Φ c p (Eo.mk (Es.mk y2.m s.now s.dr s.x s.kc (s.ne+1) y3 { s.f with ln:=aN i (O 19) s.f.ln }) false (O 0) (O 0)))))))))) (nN (g19 c (qE y0::(1,.eqI 2 2)::g71 c [])) (g77 y0 c fun y1=>g216 y1 c p s.m s s.x fun y2=>g93 i p (zj (decide ((if 0=0/\i=i then i64.wrap (u64.wrap (y2.o-O 1)) else s.f.n i) >= O 0)) (zj (decide ((if 0=0/\i=i then i64.wrap (u64.wrap (y2.o-O 1)) else s.f.n i)<c.T)) (zj (!decide ((if 0=0/\i=i then i64.wrap (u64.wrap (y2.o-O 1)) else s.f.n i)<(↑s.x.n:Int))) (gs3 i p s Φ y2 c) (g11 i p (lfE Φ c p (Eo.mk { s with m:=y2.m,f:={ s.f with ln:=aN i (O 20) s.f.ln,n:=aN i (i64.wrap (u64.wrap (y2.o-O 1))) s.f.n }} false (O 0) (O 0))))) (gs3 i p s Φ y2 c)) (gs3 i p s Φ y2 c)))))))))))))))))))))))):=by kernel_rfl
def tpF(f:Fk)(i:Nat):Int:=f.ld i (f.ll i-1)
def tsk0(c:Cf)(t:Int):Prop:=0<=t/\t<c.T
def pcV(c:Cf)(x:Rk)(t:Nat):Prop:=(0<=x.p t/\x.p t<(c.nP:Int))/\0<=x.pc t/\x.pc t<(c.lenP (x.p t).toNat:Int)
structure stR (i:Nat) (s s':Es):Prop where
 xn:s'.x.n=s.x.n
 xp:s'.x.p=s.x.p
 xk:s'.x.kl=s.x.kl
 kc:s'.kc=s.kc
 kd:s'.f.kd=s.f.kd
 lc:s'.f.lc=s.f.lc
 ld:s'.f.ld=s.f.ld
 ln:∀e,e≠i->s'.f.ln e=s.f.ln e
 ll:∀e,e≠i->s'.f.ll e=s.f.ll e
 fi:s'.f.i=s.f.i
 now:s'.now=s.now
def ΦR(b:Nat)(c:Cf)(p:Ep)(s:Es)(i:Nat)(x:Eo):Prop:=okQ c p x.s/\gr s x.s/\stR i s x.s/\(x.done=false->1<=x.s.f.ll i/\x.s.f.ln i≠3/\x.s.f.ln i≠5/\(x.s.f.ln i≠1->x.s.f.ll i=s.f.ll i))
def ΦRr(b:Nat)(c:Cf)(p:Ep)(s:Es)(i:Nat)(x:Eo):Prop:=ΦR b c p s i x/\(s.f.ln i=23->x.done=true)
theorem up_nn{α:Type}{i:Nat}{f:Nat->α}{v:α}:∀e,e≠i->(if 0=0/\e=i then v else f e)=f e:=fun e he=>if_neg fun h=>he h.2
section
variable {b:Nat} {c:Cf} {p:Ep} {s:Es} {i:Nat}
theorem mkR(hs:okE b c p s){m:Mm}{st:Nat->Bool}{pc lf wt:Nat->Int}{ne nc:Nat}{ln qt qb qr qc a b' d j n t u v w x:Nat->Int}{ll lc:Nat->Nat}{dn:Bool}{cd vl:Int}(hm:okW m)(hne:ne<=s.ne+3)(hnc:ne<=nc)(hln:∀e,e≠i->ln e=s.f.ln e)(hll:∀e,e≠i->ll e=s.f.ll e)(hlb:∀e,ll e<=s.f.ll e)(hlc:lc=s.f.lc)
  (hu:∀e,wd (u e)) (hv:∀e,wd (v e)) (hw:∀e,wd (w e)) (hx:∀e,wd (x e)) (hq:∀e,qc e<=9223372036854775807) (hd:dn=false->1<=ll i/\ln i≠3/\ln i≠5/\(ln i≠1->ll i=s.f.ll i)):
  ΦR b c p s i ⟨⟨m,s.now,s.dr,⟨s.x.n,s.x.p,s.x.pa,pc,lf,wt,s.x.kl,s.x.kd,st⟩,s.kc,ne,nc,⟨s.f.kd,ln,qt,qb,qr,qc,a,b',d,s.f.i,j,n,t,u,v,w,x,ll,lc,s.f.ld⟩⟩,dn,cd,vl⟩:=by
 subst hlc
 exact⟨⟨hm,hs.n,hs.kc,hnc,fun e he=>zo (hlb e) (hs.lc e he),hu,hv,hw,hx,hq⟩,⟨hne,fun e=>Nat.le_succ _,fun e=>Nat.le_succ_of_le (hlb e)⟩,⟨rfl,rfl,rfl,rfl,rfl,rfl,rfl,hln,hll,rfl,rfl⟩,hd⟩
theorem ll_e(hs:okE b c p s)(hb:b<=900000)(hl:1<=s.f.ll i):i64.wrap ((s.f.ll i:Int)-O 1)=((s.f.ll i-1:Nat):Int):=by
 have:=hs.ll i
 rw[w64 (by simp only[zz];omega)]
 simp only[zz]
 omega
theorem lv_le(hs:okE b c p s)(hb:b<=900000)(hl:1<=s.f.ll i):∀e,(if 0=0/\e=i then(i64.wrap ((s.f.ll i:Int)-O 1)).toNat else s.f.ll e)<=s.f.ll e:=fun e=>by
 rw[ll_e hs hb hl]
 split
 ·rename_i h;rw[h.2,Int.toNat_natCast];omega
 ·exact Z _
theorem lc_e:(fun e=>if 0=0/\e=i then s.f.lc i else s.f.lc e)=s.f.lc:=funext fun e=>by
 split
 ·rename_i h;rw[h.2]
 ·rfl
theorem hd_t{q:Prop}:true=false->q:=fun h=>by cases h
theorem hd_k(hl:1<=s.f.ll i){f:Nat->Int}{L:Nat}(h3:L≠3)(h5:L≠5):false=false->1<=s.f.ll i/\(if 0=0/\i=i then O L else f i)≠3/\(if 0=0/\i=i then O L else f i)≠5/\((if 0=0/\i=i then O L else f i)≠1->s.f.ll i=s.f.ll i):=fun _=>by
 rw[if_pos ⟨rfl,rfl⟩]
 simp only[zz]
 exact⟨hl,by omega,by omega,fun _=>trivial⟩
theorem lv_2(hi:i<p.fn)(hs:okE b c p s)(hb:b<=900000)(hl:1<=s.f.ll i):O 0<=O 0/\O 0<=i64.wrap ((s.f.ll i:Int)-O 1)/\i64.wrap ((s.f.ll i:Int)-O 1)<=(s.f.lc i:Int):=by
 have:=hs.lc i hi
 rw[ll_e hs hb hl]
 simp only[zz]
 omega
theorem lv_3{e:Nat}:(if 0=0/\e=i then i else e)=e:=by
 split
 ·rename_i h;exact h.2.symm
 ·rfl
theorem lv_4{e:Nat}:(s.f.lc e=if 0=0/\e=i then s.f.lc i else s.f.lc e)\/(if 0=0/\e=i then s.f.lc i else s.f.lc e)=0:=.inl (congrFun lc_e e).symm
theorem lv_5(hs:okE b c p s)(hb:b<=900000)(hl:1<=s.f.ll i){e:Nat}:(upto p.fn (fun e=>if 0=0/\e=i then(i64.wrap ((s.f.ll i:Int)-O 1)).toNat else s.f.ll e) e<=if 0=0/\e=i then s.f.lc i else s.f.lc e)/\upto p.fn (fun e=>if 0=0/\e=i then(i64.wrap ((s.f.ll i:Int)-O 1)).toNat else s.f.ll e) e<=upto p.fn s.f.ll e:=by
 have h1:=lv_le hs hb hl e
 have h2:=(hs.la e).1
 rw[show(if 0=0/\e=i then s.f.lc i else s.f.lc e)=s.f.lc e from congrFun lc_e e]
 unfold upto at *
 split
 ·rename_i he;rw[if_pos he]at h2;exact⟨zo h1 h2,h1⟩
 ·exact⟨zh _,Z _⟩
theorem ll_u(hs:okE b c p s){e:Nat}(he:e<p.fn):s.f.ll e<=upto p.fn s.f.ll e/\s.f.ll e<=s.f.lc e:=⟨by unfold upto;rw[if_pos he];exact Z _,hs.lc e he⟩
theorem tp_p(hi:i<p.fn)(hs:okE b c p s)(hb:b<=900000)(hl:1<=s.f.ll i):i<p.fn/\1<=s.f.ll i/\s.f.ll i<=1000000:=⟨hi,hl,by have:=hs.ll i;omega⟩
theorem tk_r(hY:okY c)(hs:okE b c p s)(ht:s.f.ln i≠23->tsk0 c (tpF s.f i)){x:Int}(hx:x=s.f.ld i (s.f.ll i-1))(h:(s.f.ln i == O 23)=false):O 0<=x/\x<(s.x.n:Int):=by
 obtain⟨h1,h2⟩:=ht (by rintro e;rw[e]at h;simp at h)
 have h3:=hs.n
 unfold tpF at h1 h2
 rw[<-hx]at h1 h2
 simp only[zz]
 omega
theorem pv_r(hp:s.f.ln i=3->pcV c s.x (tpF s.f i).toNat){x:Int}(hx:x=s.f.ld i (s.f.ll i-1))(h:(s.f.ln i == O 3)=true):pcV c s.x (0+x.toNat):=by
 have:=hp (eq_of_beq h)
 rw[z8,hx]
 exact this
theorem pv_3{x:Rk}{t:Nat}(h:pcV c x t):O 0<=x.pc t/\x.pc t<(c.lenP (0+(x.p t).toNat):Int):=by rw[z8];exact h.2
theorem pv_4{x:Rk}{t:Nat}(h:pcV c x t):0+(x.p t).toNat<c.nP/\0+(x.pc t).toNat<c.lenP (0+(x.p t).toNat):=by
 rw[z8,z8]
 obtain⟨⟨h1,h2⟩,h3,h4⟩:=h
 omega
theorem pv_b1{x:Rk}{t:Nat}{q:Prop}(h:pcV c x t)(e:decide (x.p t<O 0)=true):q:=by
 have e:=of_decide_eq_true e
 have:=h.1.1
 simp only[zz]at e
 omega
theorem pv_b2{x:Rk}{t:Nat}{q:Prop}(h:pcV c x t)(e:decide (x.p t >= (c.nP:Int))=true):q:=by
 have e:=of_decide_eq_true e
 have:=h.1.2
 omega
theorem lv_n{q:Prop}(hs:okE b c p s)(hb:b<=900000)(hl:1<=s.f.ll i)(h:((((if 0=0/\i=i then(i64.wrap ((s.f.ll i:Int)-O 1)).toNat else s.f.ll i):Nat):Int) == O 0)=false):
  false=false->1<=(if 0=0/\i=i then(i64.wrap ((s.f.ll i:Int)-O 1)).toNat else s.f.ll i)/\(if 0=0/\i=i then O 1 else s.f.ln i)≠3/\(if 0=0/\i=i then O 1 else s.f.ln i)≠5/\((if 0=0/\i=i then O 1 else s.f.ln i)≠1->(if 0=0/\i=i then(i64.wrap ((s.f.ll i:Int)-O 1)).toNat else s.f.ll i)=s.f.ll i):=fun _=>by
 rw[if_pos ⟨rfl,rfl⟩]at h ⊢
 rw[if_pos ⟨rfl,rfl⟩]
 refine⟨?_,by decide,by decide,fun h=>(h rfl).elim⟩
 simp only[zz,beq_eq_false_iff_ne,ne_eq]at h ⊢
 omega
end
theorem qllc{p:Prop}(h:p:=by first|exact fun _ _=>rfl|exact up_nn):p:=h
theorem qmkr{p:Prop}(h:p:=by exact mkR ‹_› qwmc (by omega) (by first|exact okE.nc qokh|assumption|omega) qlnc qllc (by first|exact fun _=>Z _|exact lv_le ‹_› ‹_› ‹_›) (by first|rfl|exact lc_e) qupc qupc qupc qupc (okE.q qokh) (by first|exact hd_t|exact hd_k ‹_› (by decide) (by decide)|exact lv_n (q:=True) ‹_› ‹_› ‹_› ‹_›)):p:=h
theorem qrfc{p:Prop} (h:p:=by first
  | exact qlfc
  | exact qmkr
  | exact lv_2 ‹_› ‹_› ‹_› ‹_›
  | exact lv_3
  | exact lv_4
  | exact lv_5 ‹_› ‹_› ‹_›
  | exact ll_u ‹_› ‹_›
  | exact tp_p ‹_› ‹_› ‹_› ‹_›
  | exact⟨Z _,by assumption⟩
  | exact tk_r ‹_› ‹_› ‹_› ‹_› ‹_›
  | exact zbk (tk_r ‹_› ‹_› ‹_› ‹_› ‹_›)
  | exact(zbk (tk_r ‹_› ‹_› ‹_› ‹_› ‹_›)).2
  | exact(pv_r ‹_› ‹_› ‹_›).1
  | exact(pv_r ‹_› ‹_› ‹_›).2
  | exact zbk (pv_r ‹_› ‹_› ‹_›).1
  | exact pv_3 (pv_r ‹_› ‹_› ‹_›)
  | exact pv_4 (pv_r ‹_› ‹_› ‹_›)
  | exact pv_b1 (pv_r ‹_› ‹_› ‹_›) (by with_reducible assumption)
  | exact pv_b2 (pv_r ‹_› ‹_› ‹_›) (by with_reducible assumption)):p:=h
theorem kd_nt{x:Int}{k:Nat}{q:Prop}(h:(x == O k)=true)(hk:(O k == O 23)=false)(e:x=(23:Int)):q:=by
 rw[<-eq_of_beq h,e]at hk
 exact absurd hk (by decide)
theorem vhRun{b:Nat}{c:Cf}{p:Ep}{s:Es}{i:Nat}(hi:i<p.fn)(hb:b<=900000)(hY:okY c)(hs:okE b c p s)(hl:1<=s.f.ll i)(hfc:p.fn<=p.fc)(ht:s.f.ln i≠23->tsk0 c (tpF s.f i))(hp:s.f.ln i=3->pcV c s.x (tpF s.f i).toNat):zad (vLf conLf gRun [] .nil c p s i (ΦRr b c p s i)):=by
 have hD:=okD hY
 refine zad.pr (vRun_eq ..) ?_
 (with_reducible repeat' first|exact zk|refine zn ?_|refine zm ?_|refine zl ?_ ?_|refine zi ?_|refine nN_h rfl ?_|refine z9 ?_ ?_|intro _)
 all_goals try dsimp only
 all_goals first
  | exact qrfc
  | exact⟨by exact qmkr,fun _=>rfl⟩
  | exact⟨by exact qmkr,fun h=>kd_no ‹_› h⟩
  | exact⟨by exact qmkr,fun h=>kd_nt ‹_› (by decide) h⟩
  | exact⟨by assumption,fun h=>kd_no ‹_› h⟩
  | trace_state
abbrev g13(a0:Ep)(a1:Fk)(l:LP):LP:=qF a0.fn (fun (e:Nat)=>e)::qF a0.fn a1.ll::l
abbrev g49(a0:Ep)(a1:Fk)(l:LP):LP:=g46 a0 a1 (g13 a0 a1 l)
abbrev g85(a0:Ep)(a1:Fk)(l:LP):LP:=qF a0.fn a1.kd::qF a0.fn a1.ln::g63 a0 a1 l
abbrev g355(a0:Ep)(a1:Fk)(l:LP):LP:=g13 a0 a1 (qF a0.fn a1.lc::l)
abbrev g358(a0:Ep)(a1:Fk)(l:LP):LP:=g57 a0 (qF a0.fn a1.kd::l)
theorem vPrb_eq(c:Cf)(p:Ep)(s:Es)(i:Nat)(Φ:Eo->Prop)(I1:Int×Int->Prop)(I2:Bool×Int->Prop)(I3:Mm×Fk->Prop)(I4:(Mm×Fk)×Int->Prop):V.pr .z (vPrb c p s i Φ I1 I2 I3 I4)=
 nN (g43 c p s.m s s.x (g57 p (g85 p s.f (g49 p s.f [qF p.fn s.f.lc])))) (ze Bool (fun (x:Bool)=>True) fun y0=>zj y0 (g11 i p (zj (s.f.ln i == O 1) (nN [(7,.lt2 0 1 0 1),qE s.dr,qE c.W] (U (c.W<=O 9223372036854775807) (nN [qX (dr s.dr c.W)] (ze Int (fun (r:Int)=>r=dr s.dr c.W) fun y1=>g135 i p (g135 i p (g135 i p (g135 i p (U (I3 (s.m,{ s.f with ln:=aN i (O 2) s.f.ln,j:=aN i (-O 1) s.f.j,n:=aN i (-O 1) s.f.n,t:=aN i y1 s.f.t })) (nN (g43 c p s.m s s.x (g358 p s.f (qF p.fn (aN i (O 2) s.f.ln)::g56 p s.f (qF p.fn (aN i (-O 1) s.f.j)::qF p.fn (aN i (-O 1) s.f.n)::qF p.fn (aN i y1 s.f.t)::g39 p s.f (g355 p s.f []))))) zw))))))))) (U (I3 (s.m,s.f)) (nN (g43 c p s.m s s.x (g57 p (g85 p s.f (g49 p s.f [qF p.fn s.f.lc])))) zw)))) (ze (Mm×Fk) I3 fun y1=>U (I1 (O 0,O 0)) (nN [(2,.eqI 0 0)] (ze (Int×Int) I1 fun y2=>nN [(4,.lt2 0 1 0 1)] (zj (decide (y2.snd<c.W)) (g17 i p (zj (y2.snd != y1.snd.a i) (U (I1 (i64.wrap (y2.fst+O 1),i64.wrap (y2.snd+O 1))) (U ((c.W-i64.wrap (y2.snd+O 1)).toNat<(c.W-y2.snd).toNat) (nN [qE (i64.wrap (y2.fst+O 1))] (nN [qE (i64.wrap (y2.snd+O 1))] (zw))))) (U (I1 (y2.fst,i64.wrap (y2.snd+O 1))) (U ((c.W-i64.wrap (y2.snd+O 1)).toNat<(c.W-y2.snd).toNat) (nN [qE y2.fst,qE (i64.wrap (y2.snd+O 1))] zw))))) (zj (y2.fst == O 0) (lfE Φ c p (Eo.mk { s with m:=y1.fst,f:={ y1.snd with kd:=s.f.kd,ll:=s.f.ll,lc:=s.f.lc,ld:=fun (i e:Nat)=>s.f.ld i e }} true (O 2) (O 0))) (g79 i p (nN [(4,.lt2 0 1 0 1)] (U (c.W≠O 0) (nN (qE ((i64.wrap (y1.snd.t i+y1.snd.i i)).tmod c.W)::g43 c p y1.fst s s.x (g358 p s.f (qF p.fn y1.snd.ln::g206 p y1.snd (g355 p s.f [])))) (ze Bool (fun (x_1148:Bool)=>True) fun y3=>zj y3 (g11 i p (zj ((i64.wrap (y1.snd.t i+y1.snd.i i)).tmod c.W == y1.snd.a i) (g93 i p (g79 i p (nN [(4,.lt2 0 1 0 1)] (U (c.W≠O 0) (U (I4 ((y1.fst,{ y1.snd with kd:=s.f.kd,i:=aN i (i64.wrap (y1.snd.i i+O 1)) y1.snd.i,ll:=s.f.ll,lc:=s.f.lc,ld:=fun (i e:Nat)=>s.f.ld i e }),(i64.wrap (y1.snd.t i+if 0=0/\i=i then i64.wrap (y1.snd.i i+O 1) else y1.snd.i i)).tmod c.W)) (U ((i64.wrap (y1.snd.t i+if 0=0/\i=i then i64.wrap (y1.snd.i i+O 1) else y1.snd.i i)).tmod c.W=(i64.wrap (y1.snd.t i+if 0=0/\i=i then i64.wrap (y1.snd.i i+O 1) else y1.snd.i i)).tmod c.W) (nN (g43 c p y1.fst s s.x (g358 p s.f (qF p.fn y1.snd.ln::g40 p y1.snd (qF p.fn (aN i (i64.wrap (y1.snd.i i+O 1)) y1.snd.i)::qF p.fn y1.snd.j::g46 p y1.snd (g355 p s.f []))))) zw))))))) (U (I4 ((y1.fst,{ y1.snd with kd:=s.f.kd,ll:=s.f.ll,lc:=s.f.lc,ld:=fun (i e:Nat)=>s.f.ld i e }),(i64.wrap (y1.snd.t i+y1.snd.i i)).tmod c.W)) (nN (qE ((i64.wrap (y1.snd.t i+y1.snd.i i)).tmod c.W)::g43 c p y1.fst s s.x (g358 p s.f (qF p.fn y1.snd.ln::g206 p y1.snd (g355 p s.f [])))) zw)))) (ze ((Mm×Fk)×Int) I4 fun y4=>nN (g43 c p y4.fst.fst s s.x (g358 p s.f (qF p.fn y4.fst.snd.ln::g206 p y4.fst.snd (g355 p s.f [])))) (ze Bool (fun (x_1148:Bool)=>True) fun y5=>zj y5 (nN [qE (i64.wrap (i64.wrap (i64.wrap (O 4+c.H)+c.C)+c.W)),qE y4.snd,qE c.W] (g99 (nA (fun (r:Int)=>r=-O 1\/O 0<=y4.snd/\y4.snd<c.W) fun y6=>nN (g129 y6 []) (g80 c p y4.fst.fst s s.x (nN [(1,.le 0 1)] (U (∀(i:Nat),i<0->0<=s.x.n) (nN [(1,.le 0 1)] (U (∀(i:Nat),i<0->0<=s.ne) (g18 y4.fst.fst y6 fun y7=>nN [qE y7.o] (g217 fun y8=>g11 i p (zj (decide (y8>y4.fst.snd.n i)) (g93 i p (U (I3 (y7.m,{ y4.fst.snd with kd:=s.f.kd,j:=aN i y4.snd y4.fst.snd.j,n:=aN i y8 y4.fst.snd.n,ll:=s.f.ll,lc:=s.f.lc,ld:=fun (i e:Nat)=>s.f.ld i e })) (nN (g43 c p y7.m s s.x (g358 p s.f (qF p.fn y4.fst.snd.ln::g56 p y4.fst.snd (qF p.fn (aN i y4.snd y4.fst.snd.j)::qF p.fn (aN i y8 y4.fst.snd.n)::g299 p y4.fst.snd (g355 p s.f []))))) zw))) (U (I3 (y7.m,{ y4.fst.snd with kd:=s.f.kd,ll:=s.f.ll,lc:=s.f.lc,ld:=fun (i e:Nat)=>s.f.ld i e })) (nN (g43 c p y7.m s s.x (g358 p s.f (qF p.fn y4.fst.snd.ln::g206 p y4.fst.snd (g355 p s.f [])))) zw))))))))))))) (ze (Mm×Fk) I3 fun y6=>g382 i p (U (I2 (false,if 0=0/\i=i then i64.wrap (y6.snd.i i+O 1) else y6.snd.i i)) (nN [qE false] (U ((if 0=0/\i=i then i64.wrap (y6.snd.i i+O 1) else y6.snd.i i)=if 0=0/\i=i then i64.wrap (y6.snd.i i+O 1) else y6.snd.i i) (ze (Bool×Int) I2 fun y7=>nN [(4,.lt2 0 1 0 1)] (zj (decide (y7.snd<c.W)) (zj y7.fst (U (I2 (true,i64.wrap (y7.snd+O 1))) (U ((c.W-i64.wrap (y7.snd+O 1)).toNat<(c.W-y7.snd).toNat) (nN [qE true] (nN [qE (i64.wrap (y7.snd+O 1))] (zw))))) (g167 i p (U (c.W≠O 0) (g17 i p (U (I2 ((i64.wrap (y6.snd.t i+y7.snd)).tmod c.W != y6.snd.a i,i64.wrap (y7.snd+O 1))) (U ((c.W-i64.wrap (y7.snd+O 1)).toNat<(c.W-y7.snd).toNat) (nN [qE (((i64.wrap (y6.snd.t i+y7.snd)).tmod c.W != y6.snd.a i)),qE (i64.wrap (y7.snd+O 1))] zw))))))) (zj y7.fst (lfE Φ c p (Eo.mk { s with m:=y6.fst,f:={ y6.snd with kd:=s.f.kd,i:=aN i (i64.wrap (y6.snd.i i+O 1)) y6.snd.i,ll:=s.f.ll,lc:=s.f.lc,ld:=fun (i e:Nat)=>s.f.ld i e }} false (O 0) (O 0))) (g11 i p (zj (decide (y6.snd.j i<O 0)) (lfE Φ c p (Eo.mk { s with m:=y6.fst,f:={ y6.snd with kd:=s.f.kd,i:=aN i (i64.wrap (y6.snd.i i+O 1)) y6.snd.i,ll:=s.f.ll,lc:=s.f.lc,ld:=fun (i e:Nat)=>s.f.ld i e }} true (O 2) (O 0))) (g79 i p (lfE Φ c p (Eo.mk { s with m:=y6.fst,f:={ y6.snd with kd:=s.f.kd,i:=aN i (i64.wrap (y6.snd.i i+O 1)) y6.snd.i,ll:=s.f.ll,lc:=s.f.lc,ld:=fun (i e:Nat)=>s.f.ld i e }} true (O 1) (i64.wrap (i64.wrap (y6.snd.j i*O 64)+y6.snd.n i))))))))))))))))))))))))))):=by kernel_rfl
theorem wrap_ge{i:Int}(h:i<9223372036854775807):i<i64.wrap (i+O 1):=by
 simp only[IntKind.wrap,IntKind.bits,IntKind.signed,zz]
 simp
 split<;>omega
theorem pr_mu{W i:Int}(hW:W<=9223372036854775807)(h:decide (i<W)=true):(W-i64.wrap (i+O 1)).toNat<(W-i).toNat:=by
 have h:=of_decide_eq_true h
 have:=wrap_ge (show i<9223372036854775807 by omega)
 omega
structure pI (s:Es) (i:Nat) (x:Mm×Fk):Prop where
 hm:okW x.1
 hln:∀e,e≠i->x.2.ln e=s.f.ln e
 hi:∀e,e≠i->x.2.i e=s.f.i e
 hu:∀e,wd (x.2.u e)
 hv:∀e,wd (x.2.v e)
 hw:∀e,wd (x.2.w e)
 hx:∀e,wd (x.2.x e)
 hq:∀e,x.2.qc e<=9223372036854775807
def pI1(x:Int×Int):Prop:=0<=x.2
theorem pr_i1{W:Int}{x y:Int×Int}(hW:W<=9223372036854775807)(h:pI1 x)(hx:decide (x.2<W)=true)(e:y.2=i64.wrap (x.2+O 1)):pI1 y:=by
 have hx:=of_decide_eq_true hx
 have h1:=wrap_ge (show x.2<9223372036854775807 by omega)
 have h:0<=x.2:=h
 show 0<=y.2
 omega
theorem up_p{i:Nat}{f g:Nat->Int}{v:Int}(h:∀e,e≠i->f e=g e):∀e,e≠i->(if 0=0/\e=i then v else f e)=g e:=fun e he=>by rw[if_neg fun h=>he h.2,h e he]
theorem pI.up{s:Es}{i:Nat}{y:Mm×Fk}(h:pI s i y){m:Mm}{kd ii j n:Nat->Int}{ll lc:Nat->Nat}{ld:Nat->Nat->Int}(hm:okW m)(hi:∀e,e≠i->ii e=s.f.i e):pI s i (m,⟨kd,y.2.ln,y.2.qt,y.2.qb,y.2.qr,y.2.qc,y.2.a,y.2.b,y.2.d,ii,j,n,y.2.t,y.2.u,y.2.v,y.2.w,y.2.x,ll,lc,ld⟩):=⟨hm,h.hln,hi,h.hu,h.hv,h.hw,h.hx,h.hq⟩
theorem vhPrb{b:Nat}{c:Cf}{p:Ep}{s:Es}{i:Nat}(hi:i<p.fn)(hb:b<=900000)(hY:okY c)(hs:okE b c p s):zad (vPrb c p s i (ΦA b c p s i) pI1 (fun _=>True) (pI s i) (fun q=>pI s i q.1)):=by
 have hD:=okD hY
 have z1:pI1 (O 0,O 0):=Int.le_refl 0
 refine zad.pr (vPrb_eq ..) ?_
 (with_reducible repeat' first|exact zk|refine zn ?_|refine zm ?_|refine zl ?_ ?_|refine zi ?_|refine nN_h rfl ?_|refine z9 ?_ ?_|intro _)
 all_goals try dsimp only
 all_goals first
  | exact qlfc
  | exact pr_mu hD.2.2.1 ‹_›
  | exact pr_i1 hD.2.2.1 ‹_› ‹_› rfl
  | exact⟨okE.m hs,by exact qlnc,by exact qlnc,by exact qupc,by exact qupc,by exact qupc,by exact qupc,okE.q hs⟩
  | exact pI.up (y:=_) ‹_› (by first|exact wa_m ‹_›|exact pI.hm ‹_›) (by first|exact pI.hi ‹_›|exact up_p (pI.hi ‹_›))
  | exact mkA hs (pI.hm ‹_›) (by omega) hs.nc (pI.hln ‹_›) (by first|exact pI.hi ‹_›|exact up_p (pI.hi ‹_›)) (pI.hu ‹_›) (pI.hv ‹_›) (pI.hw ‹_›) (pI.hx ‹_›) (pI.hq ‹_›)
  | exact⟨pI.hm ‹_›,z_w,z_w⟩
  | trace_state
def preA(c:Cf)(p:Ep)(s:Es)(i:Nat):Prop:=i<p.fn/\okY c/\okE 900000 c p s
def preC(c:Cf)(p:Ep)(s:Es)(i:Nat):Prop:=preA c p s i/\0<=s.f.i i
def preR(c:Cf)(p:Ep)(s:Es)(i:Nat):Prop:=preA c p s i/\1<=s.f.ll i/\p.fn<=p.fc/\(s.f.ln i≠23->tsk0 c (tpF s.f i))/\(s.f.ln i=3->pcV c s.x (tpF s.f i).toNat)
noncomputable section
def prgF(k:Nat)(h:HL):Nat:=match (find k h).map zfe with
 | some [.cs kF _ _ _ _]=>kF
 | _=>0
def rdEp(ke kf:Nat)(h:HL):Option (Cf×Ep×Es×List Nat):=match rdEs ke kf h,cfE ke h,rdRv ke h,find kf h with
 | some (s,[k0,k1,k2,k4,k5,k6,k7,k9]),some c,some (r,_),some (.row _ fc fn _)=>some (c,⟨r.len,r.cap,r.rc,fn,fc⟩,s,[k0,k1,k2,prgF k1 h,k4,k5,k6,k7,kf,k9])
 | _,_,_,_=>none
def conLn(pre:Cf->Ep->Es->Nat->Prop)(Φ:Cf->Ep->Es->Nat->Eo->Prop):List SV->Hp->Out (SV×Hp):=fun args H=>match args with
 | [.c (.ptr ke _ _ _ _),.c (.ptr kf _ i _ _)]=>fN ke fun ke=>fN kf fun kf=>match rdEp ke kf H.h with
  | some (c,p,s,σ)=>useP σ 10 (argLf i.v) (s.h c p) (.need (pre c p s i.v) (.any Eo (Φ c p s i.v) fun x=>.leaf (svEo x,⟨x.s.hE c p 10,11,fun _=>True⟩))) args H
  | none=>.bad 486
 | _=>.bad 487
theorem zbc{f:FuncId}{pre:Cf->Ep->Es->Nat->Prop}{Φ:Cf->Ep->Es->Nat->Eo->Prop}(h:∀c p s i,zah P f (argLf i) (s.h c p) 10 (.need (pre c p s i) (.any Eo (Φ c p s i) fun x=>.leaf (svEo x,⟨x.s.hE c p 10,11,fun _=>True⟩)))):zab P f (conLn pre Φ):=zac fun args H=>by
 unfold conLn
 simp only[fN_eq]
 repeat' split
 all_goals first
  | exact .inl ⟨_,rfl⟩
  | exact .inr ⟨_,_,_,_,_,rfl,h _ _ _ _⟩
def cA:List SV->Hp->Out (SV×Hp):=conLn preA (ΦA 900000)
theorem cPush_ok:zab P gPush cA:=zbc fun c p s i=>zae za0 fun h=>vhPush h.1 (Z _) h.2.1 h.2.2
theorem cPop_ok:zab P gPop cA:=zbc fun c p s i=>zae za0 fun h=>vhPop h.1 (Z _) h.2.1 h.2.2
theorem cSteal_ok:zab P gSteal cA:=zbc fun c p s i=>zae za0 fun h=>vhSteal h.1 (Z _) h.2.1 h.2.2
theorem cClear_ok:zab P gClear cA:=zbc fun c p s i=>zae za0 fun h=>vhClear h.1 (Z _) h.2.1 h.2.2
theorem cIns_ok:zab P gIns cA:=zbc fun c p s i=>zae za0 fun h=>vhIns h.1 (Z _) h.2.1 h.2.2
theorem cRem_ok:zab P gRem cA:=zbc fun c p s i=>zae za0 fun h=>vhRem h.1 (Z _) h.2.1 h.2.2
theorem cBoost_ok:zab P gBoost cA:=zbc fun c p s i=>zae za0 fun h=>vhBoost h.1 (Z _) h.2.1 h.2.2
theorem cSweep_ok:zab P gSweep cA:=zbc fun c p s i=>zae za0 fun h=>vhSweep h.1 (Z _) h.2.1 h.2.2
theorem cSleep_ok:zab P gSleep cA:=zbc fun c p s i=>zae za0 fun h=>vhSleep h.1 (Z _) h.2.1 h.2.2
theorem cWake_ok:zab P gWake cA:=zbc fun c p s i=>zae za0 fun h=>vhWake h.1 (Z _) h.2.1 h.2.2
theorem cProbe_ok:zab P gProbe cA:=zbc fun c p s i=>zae za0 fun h=>by
 have h:=vhPrb h.1 (Z _) h.2.1 h.2.2
 unfold vPrb at h
 exact h
theorem cDrain_ok:zab P gDrain cA:=zbc fun c p s i=>zae za0 fun h=>vhDrain h.1 (Z _) h.2.1 h.2.2
def cTabL:List SV->Hp->Out (SV×Hp):=conLn preA (ΦT 900000)
theorem cTab_ok:zab P gTab cTabL:=zbc fun c p s i=>zae za0 fun h=>vhTab h.1 (Z _) h.2.1 h.2.2
def cCliL:List SV->Hp->Out (SV×Hp):=conLn preC (ΦC 900000)
theorem cCli_ok:zab P gCli cCliL:=zbc fun c p s i=>zae za0 fun h=>vhCli h.1.1 (Z _) h.1.2.1 h.1.2.2 h.2
def cRunL:List SV->Hp->Out (SV×Hp):=conLn preR (ΦRr 900000)
theorem cRun_ok:zab P gRun cRunL:=zbc fun c p s i=>zae za0 fun h=>vhRun h.1.1 (Z _) h.1.2.1 h.1.2.2 h.2.1 h.2.2.1 h.2.2.2.1 h.2.2.2.2
def conLe:Con:=Con.add gPush cA (Con.add gPop cA (Con.add gSteal cA (Con.add gClear cA (Con.add gIns cA (Con.add gRem cA (Con.add gBoost cA (Con.add gSweep cA (Con.add gSleep cA (Con.add gWake cA (Con.add gProbe cA (Con.add gDrain cA (Con.add gTab cTabL (Con.add gCli cCliL (Con.add gRun cRunL conLf))))))))))))))
theorem conLe_ok:zaj P conLe:=.add cPush_ok (.add cPop_ok (.add cSteal_ok (.add cClear_ok (.add cIns_ok (.add cRem_ok (.add cBoost_ok (.add cSweep_ok (.add cSleep_ok (.add cWake_ok (.add cProbe_ok (.add cDrain_ok (.add cTab_ok (.add cCli_ok (.add cRun_ok za0))))))))))))))
end
abbrev g50(a0:Ep)(a1:Fk)(k:V):V:=nN [qF a0.fn a1.lc] (U (∀(i:Nat),a1.lc i=a1.lc i\/a1.lc i=0) (U (∀(i:Nat),upto a0.fn a1.ll i<=a1.lc i/\upto a0.fn a1.ll i<=upto a0.fn a1.ll i) (nN [(1,.pf (∀(i e:Nat),e<upto a0.fn a1.ll i->a1.ld i e=a1.ld i e) (by intros;rfl))] k)))
abbrev g51(a0:Ep)(a1:Fk)(k:V):V:=nN (g49 a0 a1 []) (g50 a0 a1 k)
abbrev g124(a0:Cf)(a1:Ep)(a2:Mm)(a3:Es)(a4:Rk)(a5:Fk)(k:V):V:=g61 a0 a1 a2 a3 a4 (nN (g85 a1 a5 []) (g51 a1 a5 (nN (g47 a3 []) k)))
abbrev g128(a0:Eo)(l:LP):LP:=qE a0.code::qE a0.value::l
abbrev g199(a0:Eo->Prop)(a1:Eo)(k:V):V:=U (a0 a1) (nN (qE a1.done::g128 a1 []) k)
abbrev g249(a0:Cf)(a1:Ep)(a2:Mm)(a3:Es)(a4:Rk)(a5:Fk)(k:V):V:=g124 a0 a1 a2 a3 a4 a5 (nN (g71 a0 []) k)
abbrev gs6(i:Nat)(c:Cf)(p:Ep)(s:Es)(Φ:Eo->Prop):V:=nN [qE i] (g249 c p s.m s s.x s.f (U (preA c p s i) (nA (ΦT 900000 c p s i) fun y0=>g199 Φ y0 (g124 c p y0.s.m y0.s y0.s.x y0.s.f zw))))
abbrev g240(a0:Mm)(a1:Fk)(a2:Nat)(k:Wa->V):V:=U (okW a0/\wd (O 0)/\wd (u64.wrap (i64.wrap (a1.a a2+O 1)))) (nA (fun (p:Wa)=>okW p.m/\wd p.o/\(p.b=true->O 0<=O 1)) fun v0=>k v0)
abbrev g367(a0:Cf)(a1:Ep)(a2:Mm)(a3:Es)(a4:Rk)(a5:Fk)(a6:Nat)(k:Eo->V):V:=g249 a0 a1 a2 a3 a4 a5 (U (preA a0 a1 a3 a6) (nA (ΦA 900000 a0 a1 a3 a6) fun v0=>k v0))
theorem vLeaf_eq(c:Cf)(p:Ep)(s:Es)(i:Nat)(Φ:Eo->Prop):V.pr (.b .z (.b .z (.b .z (.b .z (.b .z (.b .z (.b (.t (.b .z (.f .z))) (.b (.b .z (.t .z)) (.b .z (.b .z (.b .z (.b (.t .z) (.b (.t .z) (.b (.t .z) (.b .z (.b (.t .z) .z)))))))))))))))) (vLf conLe gLeaf [] .nil c p s i Φ)=
 g11 i p (zj (s.f.kd i == O 0) (nN [qE i] (g367 c p s.m s s.x s.f i fun y0=>g199 Φ y0 (g124 c p y0.s.m y0.s y0.s.x y0.s.f zw))) (zj (s.f.kd i == O 1) (nN [qE i] (g367 c p s.m s s.x s.f i fun y0=>g199 Φ y0 (g124 c p y0.s.m y0.s y0.s.x y0.s.f zw))) (zj (s.f.kd i == O 2) (nN [qE i] (g367 c p s.m s s.x s.f i fun y0=>g199 Φ y0 (g124 c p y0.s.m y0.s y0.s.x y0.s.f zw))) (zj (s.f.kd i == O 3) (g79 i p (nN [qE (s.f.b i)] (g98 fun y0=>nN [qE (s.f.a i),qE y0] (g107 c p s.m s s.x (U (okW s.m/\wd y0/\wd (O 0)) (nA (fun (p:Wa)=>okW p.m/\wd p.o/\(p.b=true->O 0<=s.f.a i)) fun y1=>lfE Φ c p (Eo.mk { s with m:=y1.m } true (O 0) (O 0)))))))) (zj (s.f.kd i == O 4) (nN [qE i] (g367 c p s.m s s.x s.f i fun y0=>g199 Φ y0 (g124 c p y0.s.m y0.s y0.s.x y0.s.f zw))) (zj (s.f.kd i == O 6) (g125 i p c (nN [qE (s.f.a i),qE c.W] (g143 s.f i c fun y0=>g216 y0 c p s.m s s.x fun y1=>g241 i p (zj ((if 0=0/\i=i then y1.o else s.f.u i) == O 0) (lfE Φ c p (Eo.mk { s with m:=y1.m,f:={ s.f with u:=aN i y1.o s.f.u }} true (O 2) (O 0))) (g11 i p (U ((if 0=0/\i=i then y1.o else s.f.u i)=if 0=0/\i=i then y1.o else s.f.u i) (g217 fun y2=>g93 i p (lfE Φ c p (Eo.mk { s with m:=y1.m,f:={ s.f with ln:=aN i (O 2) s.f.ln,i:=aN i y2 s.f.i,u:=aN i y1.o s.f.u }} false (O 0) (O 0)))))))))) (zj (s.f.kd i == O 7) (U ((s.f.kd i == O 7)=true) (g11 i p (nN (g351 [qE (u64.wrap (i64.wrap (s.f.a i+O 1)))]) (g89 c p s.m s s.x (g240 s.m s.f i fun y0=>zj y0.b (lfE Φ c p (Eo.mk { s with m:=y0.m } true (O 1) (O 0))) (g11 i p (U ((s.f.kd i == O 8)=false) (lfE Φ c p (Eo.mk { s with m:=y0.m } false (O 0) (O 0)))))))))) (zj (s.f.kd i == O 8) (g11 i p (nN (g351 [qE (u64.wrap (i64.wrap (s.f.a i+O 1)))]) (g89 c p s.m s s.x (g240 s.m s.f i fun y0=>zj y0.b (lfE Φ c p (Eo.mk { s with m:=y0.m } true (O 1) (O 0))) (g11 i p (U ((s.f.kd i == O 8)=true) (lfE Φ c p (Eo.mk { s with m:=y0.m } true (O 5) (O 0))))))))) (zj (s.f.kd i == O 9) (nN [(1,.eqI 1 1)] (g225 c p s.m s s.x (g73 s s.m (nA (fun (p:Wa)=>okW p.m/\wd p.o/\(p.b=true->O 0<=O 1)) fun y0=>lfE Φ c p (Eo.mk { s with m:=y0.m } true (O 0) (O 0)))))) (zj (s.f.kd i == O 10) (nN [qE i] (g367 c p s.m s s.x s.f i fun y0=>g199 Φ y0 (g124 c p y0.s.m y0.s y0.s.x y0.s.f zw))) (zj (s.f.kd i == O 11) (nN [qE i] (g367 c p s.m s s.x s.f i fun y0=>g199 Φ y0 (g124 c p y0.s.m y0.s y0.s.x y0.s.f zw))) (zj (s.f.kd i == O 12) (U ((s.f.kd i == O 12)=true) (gs6 i c p s Φ)) (zj (s.f.kd i == O 13) (U ((s.f.kd i == O 13)=true) (gs6 i c p s Φ)) (zj (s.f.kd i == O 14) (U ((s.f.kd i == O 14)=true) (gs6 i c p s Φ)) (zj (s.f.kd i == O 15) (gs6 i c p s Φ) (zj (s.f.kd i == O 16) (U ((s.f.kd i == O 16)=true) (nN [qE i] (g367 c p s.m s s.x s.f i fun y0=>g199 Φ y0 (g124 c p y0.s.m y0.s y0.s.x y0.s.f zw)))) (zj (s.f.kd i == O 17) (nN [qE i] (g367 c p s.m s s.x s.f i fun y0=>g199 Φ y0 (g124 c p y0.s.m y0.s y0.s.x y0.s.f zw))) (zj (s.f.kd i == O 18) (nN [qE i] (g367 c p s.m s s.x s.f i fun y0=>g199 Φ y0 (g124 c p y0.s.m y0.s y0.s.x y0.s.f zw))) (zj (s.f.kd i == O 19) (nN [qE i] (g367 c p s.m s s.x s.f i fun y0=>g199 Φ y0 (g124 c p y0.s.m y0.s y0.s.x y0.s.f zw))) (zj (s.f.kd i == O 20) (nN [qE i] (g367 c p s.m s s.x s.f i fun y0=>g199 Φ y0 (g124 c p y0.s.m y0.s y0.s.x y0.s.f zw))) (zj (s.f.kd i == O 21) (nN [qE i] (g367 c p s.m s s.x s.f i fun y0=>g199 Φ y0 (g124 c p y0.s.m y0.s y0.s.x y0.s.f zw))) (zj (s.f.kd i == O 22) (nN [qE i] (g367 c p s.m s s.x s.f i fun y0=>g199 Φ y0 (g124 c p y0.s.m y0.s y0.s.x y0.s.f zw))) (zj (s.f.kd i == O 24) (nN [qE i] (g249 c p s.m s s.x s.f (U (preR c p s i) (nA (ΦRr 900000 c p s i) fun y0=>g199 Φ y0 (g124 c p y0.s.m y0.s y0.s.x y0.s.f zw))))) (zj (s.f.kd i == O 26) (nN [qE i] (g249 c p s.m s s.x s.f (U (preC c p s i) (nA (ΦC 900000 c p s i) fun y0=>g199 Φ y0 (g124 c p y0.s.m y0.s y0.s.x y0.s.f zw))))) (lfE Φ c p (Eo.mk s true (O 4) (O 0))))))))))))))))))))))))))):=by kernel_rfl
structure stL (i:Nat) (s s':Es):Prop where
 xn:s'.x.n=s.x.n
 xp:s'.x.p=s.x.p
 xk:s'.x.kl=s.x.kl
 kc:s'.kc=s.kc
 kd:s'.f.kd=s.f.kd
 lc:s'.f.lc=s.f.lc
 ld:s'.f.ld=s.f.ld
 ln:∀e,e≠i->s'.f.ln e=s.f.ln e
 ll:∀e,e≠i->s'.f.ll e=s.f.ll e
 fi:∀e,e≠i->s'.f.i e=s.f.i e
 now:s'.now=s.now
structure ΦL (c:Cf) (p:Ep) (s:Es) (i:Nat) (x:Eo):Prop where
 q:okQ c p x.s
 g:gr s x.s
 st:stL i s x.s
 a:s.f.kd i≠24->x.s.f.ll i=s.f.ll i/\x.s.x.pc=s.x.pc
 t:s.f.kd i=12->x.done=true/\(x.code=3\/(0<=x.value/\x.value<c.T))
 r:s.f.kd i=24->x.done=false->1<=x.s.f.ll i/\x.s.f.ln i≠3/\x.s.f.ln i≠5/\(x.s.f.ln i≠1->x.s.f.ll i=s.f.ll i)
 c:s.f.kd i=26->x.s.f.i=s.f.i
 d:s.f.kd i=24->s.f.ln i=23->x.done=true
structure preL (c:Cf) (p:Ep) (s:Es) (i:Nat):Prop where
 a:preA c p s i
 fc:p.fn<=p.fc
 r:s.f.kd i=24->1<=s.f.ll i/\(s.f.ln i≠23->tsk0 c (tpF s.f i))/\(s.f.ln i=3->pcV c s.x (tpF s.f i).toNat)
 c:s.f.kd i=26->0<=s.f.i i
theorem stA.L{i:Nat}{s s':Es}(h:stA i s s'):stL i s s':=⟨h.xn,h.xp,h.xk,h.kc,h.kd,h.lc,h.ld,h.ln,fun e _=>congrFun h.ll e,h.fi,h.now⟩
theorem stR.L{i:Nat}{s s':Es}(h:stR i s s'):stL i s s':=⟨h.xn,h.xp,h.xk,h.kc,h.kd,h.lc,h.ld,h.ln,h.ll,fun e _=>congrFun h.fi e,h.now⟩
section
variable {b:Nat} {c:Cf} {p:Ep} {s:Es} {i:Nat} {x:Eo}
theorem fL_A(h:ΦA b c p s i x)(h1:s.f.kd i≠12)(h2:s.f.kd i≠24)(h3:s.f.kd i≠26):ΦL c p s i x:=⟨h.1,h.2.1,h.2.2.L,fun _=>⟨congrFun h.2.2.ll i,h.2.2.xc⟩,fun e=>(h1 e).elim,fun e=>(h2 e).elim,fun e=>(h3 e).elim,fun e=>(h2 e).elim⟩
theorem fL_T(h:ΦT b c p s i x)(h2:s.f.kd i≠24)(h3:s.f.kd i≠26):ΦL c p s i x:=⟨h.1.1,h.1.2.1,h.1.2.2.L,fun _=>⟨congrFun h.1.2.2.ll i,h.1.2.2.xc⟩,h.2,fun e=>(h2 e).elim,fun e=>(h3 e).elim,fun e=>(h2 e).elim⟩
theorem fL_C(h:ΦC b c p s i x)(h1:s.f.kd i≠12)(h2:s.f.kd i≠24):ΦL c p s i x:=⟨h.1.1,h.1.2.1,h.1.2.2.L,fun _=>⟨congrFun h.1.2.2.ll i,h.1.2.2.xc⟩,fun e=>(h1 e).elim,fun e=>(h2 e).elim,fun _=>h.2,fun e=>(h2 e).elim⟩
theorem fL_R(h:ΦRr b c p s i x)(h1:s.f.kd i≠12)(h2:s.f.kd i=24)(h3:s.f.kd i≠26):ΦL c p s i x:=⟨h.1.1,h.1.2.1,h.1.2.2.1.L,fun e=>(e h2).elim,fun e=>(h1 e).elim,fun _=>h.1.2.2.2,fun e=>(h3 e).elim,fun _=>h.2⟩
theorem okE.Q(h:okE b c p s):okQ c p s:=⟨h.m,h.n,h.kc,h.nc,h.lc,h.u,h.v,h.w,h.x,h.q⟩
theorem gr.refl:gr s s:=⟨Nat.le_add_right _ _,fun _=>Nat.le_succ _,fun _=>Nat.le_succ _⟩
theorem exA(h:okE b c p s):∃x,ΦA 900000 c p s i x:=⟨⟨s,true,3,0⟩,h.Q,gr.refl,stA.refl⟩
theorem exT(h:okE b c p s):∃x,ΦT 900000 c p s i x:=⟨⟨s,true,3,0⟩,⟨h.Q,gr.refl,stA.refl⟩,fun _=>⟨rfl,.inl rfl⟩⟩
theorem exC(h:okE b c p s):∃x,ΦC 900000 c p s i x:=⟨⟨s,true,3,0⟩,⟨h.Q,gr.refl,stA.refl⟩,rfl⟩
theorem exR(h:okE b c p s):∃x,ΦRr 900000 c p s i x:=⟨⟨s,true,3,0⟩,⟨h.Q,gr.refl,⟨rfl,rfl,rfl,rfl,rfl,rfl,rfl,fun _ _=>rfl,fun _ _=>rfl,rfl,rfl⟩,fun h=>by cases h⟩,fun _=>rfl⟩
end
theorem kd_t{x y:Int}{k:Nat}(h:(x == O k)=true)(hk:(O k == y)=false):x≠y:=by
 rw[eq_of_beq h]
 simpa using hk
theorem kd_f{x y:Int}{k:Nat}(h:(x == O k)=false)(hk:(O k == y)=true):x≠y:=by
 rw[<-eq_of_beq hk]
 simpa using h
theorem kd_x{x:Int}{a b:Nat}(h:(x == O a)=true)(hab:(O a == O b)=false):(x == O b)=false:=by rw[eq_of_beq h];exact hab
section
variable {c:Cf} {p:Ep} {s:Es} {i:Nat}
theorem okQ.ka(h:okQ c p s)(e:Nat):upto s.x.n s.x.kl e<=s.kc e/\upto s.x.n s.x.kl e<=upto s.x.n s.x.kl e:=⟨by unfold upto;split;exact h.kc e ‹_›;exact zh _,Z _⟩
theorem okQ.la(h:okQ c p s)(e:Nat):upto p.fn s.f.ll e<=s.f.lc e/\upto p.fn s.f.ll e<=upto p.fn s.f.ll e:=⟨by unfold upto;split;exact h.lc e ‹_›;exact zh _,Z _⟩
theorem preR_of(ha:preA c p s i)(hfc:p.fn<=p.fc)(hr:s.f.kd i=24->1<=s.f.ll i/\(s.f.ln i≠23->tsk0 c (tpF s.f i))/\(s.f.ln i=3->pcV c s.x (tpF s.f i).toNat))(h:(s.f.kd i == O 24)=true):preR c p s i:=
 have h:=hr (eq_of_beq h)
 ⟨ha,h.1,hfc,h.2.1,h.2.2⟩
theorem preC_of(ha:preA c p s i)(hc:s.f.kd i=26->0<=s.f.i i)(h:(s.f.kd i == O 26)=true):preC c p s i:=⟨ha,hc (eq_of_beq h)⟩
end
theorem qkdc{p:Prop}(h:p:=by first|exact kd_t ‹_› (by decide)|exact kd_f (k:=12) ‹_› (by decide)|exact kd_f (k:=24) ‹_› (by decide)|exact kd_f (k:=26) ‹_› (by decide)):p:=h
theorem qokq{p:Prop}(h:p:=by first|exact And.left ‹_›|exact And.left (And.left ‹_›)):p:=h
theorem vhLeaf{c:Cf}{p:Ep}{s:Es}{i:Nat}(h:preL c p s i):zad (vLf conLe gLeaf [] .nil c p s i (ΦL c p s i)):=by
 obtain⟨ha,hfc,hr,hcl⟩:=h
 obtain⟨hi,hY,hs⟩:=id ha
 have hD:=okD hY
 refine zad.pr (vLeaf_eq ..) ?_
 (with_reducible repeat' first|exact zk|refine zn ?_|refine zm ?_|refine zl ?_ ?_|refine zi ?_|refine nN_h rfl ?_|refine z9 ?_ ?_|intro _)
 all_goals try dsimp only
 all_goals first
  | exact qlfc
  | exact exA hs
  | exact exT hs
  | exact exC hs
  | exact exR hs
  | exact ha
  | exact preR_of ha hfc hr ‹_›
  | exact preC_of ha hcl ‹_›
  | exact okQ.ka qokq _
  | exact okQ.la qokq _
  | exact kd_x ‹_› (by decide)
  | exact fL_A (b:=900000) ‹_› qkdc qkdc qkdc
  | exact fL_T (b:=900000) ‹_› qkdc qkdc
  | exact fL_C (b:=900000) ‹_› qkdc qkdc
  | exact fL_R (b:=900000) ‹_› qkdc (eq_of_beq ‹_›) qkdc
  | exact fL_A (b:=900000) qmka qkdc qkdc qkdc
  | trace_state
noncomputable section
def Fk.lj(f:Fk)(i:Nat)(y:Int×Int):Fk:=⟨f.kd,fun e=>if 0=0/\e=i then y.1 else f.ln e,f.qt,f.qb,f.qr,f.qc,f.a,f.b,f.d,f.i,fun e=>if 0=0/\e=i then y.2 else f.j e,f.n,f.t,f.u,f.v,f.w,f.x,f.ll,f.lc,f.ld⟩
def Es.lj(s:Es)(i:Nat)(y:Int×Int):Es:=⟨s.m,s.now,s.dr,s.x,s.kc,s.ne,s.nc,s.f.lj i y⟩
def vCho(c:Cf)(p:Ep)(s:Es)(i:Nat)(Φ:Int×Int->Prop):V:=verF P conLf 8 10 gChoose [] .nil (argLf i) ⟨s.h c p,10,fun _=>True⟩
 (finV (X:=Int×Int) 10 10 (fun _ H=>match rdFk 8 H.h with|some (f,_)=>some (f.ln i,f.j i)|none=>none) (fun _ _=>[]) Φ (fun _=>.t []) (fun y=>(s.lj i y).hE c p 7))
end
abbrev g69(a0:Ep)(a1:Nat)(a2:Fk)(k:V):V:=U (∀(e:Nat),e<a0.fn->(if 0=0/\e=a1 then O 17 else a2.ln e)=if 0=0/\e=a1 then if 0=0/\a1=a1 then O 17 else a2.ln a1 else a2.ln e) (nN (g40 a0 a2 []) k)
abbrev g75(a0:Ep)(a1:Fk)(a2:Nat)(k:V):V:=nN [qF a0.fn a1.i] (U (∀(e:Nat),e<a0.fn->a1.j e=if 0=0/\e=a2 then a1.j a2 else a1.j e) (g51 a0 a1 k))
abbrev g83(a0:Ep)(a1:Fk)(a2:Nat)(k:V):V:=nN (g40 a0 a1 []) (g75 a0 a1 a2 k)
abbrev g84(a0:Ep)(a1:Nat)(a2:Fk)(k:V):V:=U (∀(e:Nat),e<a0.fn->(if 0=0/\e=a1 then O 2 else a2.ln e)=if 0=0/\e=a1 then if 0=0/\a1=a1 then O 2 else a2.ln a1 else a2.ln e) (g83 a0 a2 a1 k)
abbrev g141(a0:Nat)(a1:Ep)(a2:Int×Int->Prop)(a3:Fk)(k:V):V:=g11 a0 a1 (U (a2 (if 0=0/\a0=a0 then O 17 else a3.ln a0,a3.j a0)) k)
abbrev g244(a0:Cf)(a1:Ep)(a2:Mm)(a3:Es)(a4:Rk)(a5:Fk)(k:V):V:=g61 a0 a1 a2 a3 a4 (nN [qF a1.fn a5.kd] k)
abbrev g362(a0:Nat)(a1:Ep)(a2:Int×Int->Prop)(a3:Fk)(k:V):V:=g11 a0 a1 (U (a2 (if 0=0/\a0=a0 then O 2 else a3.ln a0,a3.j a0)) k)
abbrev gs7(s:Es)(y0:Int)(i:Nat)(p:Ep)(Φ:Int×Int->Prop)(c:Cf):V:=zj (s.x.wt (0+y0.toNat) != -O 1) (g362 i p Φ s.f (g244 c p s.m s s.x s.f (g84 p i s.f (nN (g47 s []) zw)))) (zj (decide (s.x.pc (0+y0.toNat)<O 0)) (g141 i p Φ s.f (g244 c p s.m s s.x s.f (g69 p i s.f (g75 p s.f i (nN (g47 s []) zw))))) (U (decide (s.x.pc (0+y0.toNat) >= O 0)=true) (g141 i p Φ s.f (g244 c p s.m s s.x s.f (g69 p i s.f (g75 p s.f i (nN (g47 s []) zw)))))))
abbrev g132(a0:Ep)(a1:Nat)(a2:Fk)(k:V):V:=U (∀(e:Nat),e<a0.fn->(if 0=0/\e=a1 then O 23 else a2.ln e)=if 0=0/\e=a1 then if 0=0/\a1=a1 then O 23 else a2.ln a1 else a2.ln e) (g83 a0 a2 a1 k)
abbrev g137(a0:Cf)(a1:Ep)(a2:Mm)(a3:Es)(a4:Rk)(a5:Fk)(a6:Nat)(k:V):V:=g61 a0 a1 a2 a3 a4 (nN [qF a1.fn a5.kd] (U (∀(e:Nat),e<a1.fn->a5.ln e=if 0=0/\e=a6 then a5.ln a6 else a5.ln e) (g83 a1 a5 a6 (nN (g47 a3 []) k))))
abbrev g271(a0:Ep)(a1:Nat)(a2:Fk)(k:V):V:=U (∀(e:Nat),e<a0.fn->(if 0=0/\e=a1 then O 4 else a2.ln e)=if 0=0/\e=a1 then if 0=0/\a1=a1 then O 4 else a2.ln a1 else a2.ln e) (g83 a0 a2 a1 k)
abbrev g339(a0:Cf)(a1:Rk)(a2:Int)(k:V):V:=U (O 0<=a0.iA (0+(a1.p (0+a2.toNat)).toNat) (0+(a1.pc (0+a2.toNat)).toNat)/\a0.iA (0+(a1.p (0+a2.toNat)).toNat) (0+(a1.pc (0+a2.toNat)).toNat)<(↑(a1.kl (0+a2.toNat)):Int)) (U (0+(a0.iA (0+(a1.p (0+a2.toNat)).toNat) (0+(a1.pc (0+a2.toNat)).toNat)).toNat<upto a1.n a1.kl (0+a2.toNat)) (U (0+(a0.iA (0+(a1.p (0+a2.toNat)).toNat) (0+(a1.pc (0+a2.toNat)).toNat)).toNat<upto a1.n a1.kl (0+a2.toNat)) k))
abbrev g356(a0:Nat)(a1:Ep)(a2:Int×Int->Prop)(a3:Fk)(k:V):V:=g11 a0 a1 (U (a2 (if 0=0/\a0=a0 then O 23 else a3.ln a0,a3.j a0)) k)
theorem vCho_eq(c:Cf)(p:Ep)(s:Es)(i:Nat)(Φ:Int×Int->Prop):V.pr (.b .z (.b (.b (.b .z (.b (.b .z (.b .z (.t .z))) (.b (.b .z (.b .z (.t .z))) .z))) .z) .z)) (vCho c p s i Φ)=
 g11 i p (zj (s.f.ln i != O 1) (U (Φ (s.f.ln i,s.f.j i)) (g137 c p s.m s s.x s.f i zw)) (nN [qE i] (g349 p (nN (g144 p s.f (g145 p s.f (g146 p s.f (g150 p s.f (g151 p s.f (g152 p s.f (g153 p s.f (g154 p s.f (g165 p s.f (g147 p s.f [])))))))))) (g346 p s.f i (g310 s.f i fun y0=>zj (decide (y0 >= O 0)) (zj (decide (y0<c.T)) (zj (!decide (y0<(↑s.x.n:Int))) (g356 i p Φ s.f (g244 c p s.m s s.x s.f (g132 p i s.f (nN (g47 s []) zw)))) (U (O 0<=y0/\y0<(↑s.x.n:Int)) (g231 y0 s.x (g231 y0 s.x (U (O 0<=y0/\y0<(↑s.x.n:Int)) (g190 y0 s.x (zj (decide (s.x.p (0+y0.toNat)<O 0)) (gs7 s y0 i p Φ c) (zj (decide (s.x.p (0+y0.toNat) >= (↑c.nP:Int))) (gs7 s y0 i p Φ c) (g315 s.x y0 c (zj (s.x.wt (0+y0.toNat) != -O 1) (g362 i p Φ s.f (g244 c p s.m s s.x s.f (g84 p i s.f (nN (g47 s []) zw)))) (zj (decide (s.x.pc (0+y0.toNat)<O 0)) (g141 i p Φ s.f (g244 c p s.m s s.x s.f (g69 p i s.f (g75 p s.f i (nN (g47 s []) zw))))) (zj (decide (s.x.pc (0+y0.toNat) >= (↑(c.lenP (0+(s.x.p (0+y0.toNat)).toNat)):Int))) (g141 i p Φ s.f (g244 c p s.m s s.x s.f (g69 p i s.f (g75 p s.f i (nN (g47 s []) zw))))) (g86 s.x y0 c (zj (c.iO (0+(s.x.p (0+y0.toNat)).toNat) (0+(s.x.pc (0+y0.toNat)).toNat) == O 0) (g11 i p (U (Φ (if 0=0/\i=i then O 3 else s.f.ln i,s.f.j i)) (g244 c p s.m s s.x s.f (U (∀(e:Nat),e<p.fn->(if 0=0/\e=i then O 3 else s.f.ln e)=if 0=0/\e=i then if 0=0/\i=i then O 3 else s.f.ln i else s.f.ln e) (g83 p s.f i (nN (g47 s []) zw)))))) (g86 s.x y0 c (zj (c.iO (0+(s.x.p (0+y0.toNat)).toNat) (0+(s.x.pc (0+y0.toNat)).toNat) == O 1) (g11 i p (U (Φ (if 0=0/\i=i then O 5 else s.f.ln i,s.f.j i)) (g244 c p s.m s s.x s.f (U (∀(e:Nat),e<p.fn->(if 0=0/\e=i then O 5 else s.f.ln e)=if 0=0/\e=i then if 0=0/\i=i then O 5 else s.f.ln i else s.f.ln e) (g83 p s.f i (nN (g47 s []) zw)))))) (nN [(2,.lt2 0 1 0 1)] (g86 s.x y0 c (nN [(2,.lt2 0 1 0 1)] (zj (decide (c.iA (0+(s.x.p (0+y0.toNat)).toNat) (0+(s.x.pc (0+y0.toNat)).toNat)<(↑(s.x.kl (0+y0.toNat)):Int))) (nN [(4,.lt2 0 1 0 1)] (g86 s.x y0 c (g339 c s.x y0 (zj (s.x.kd (0+y0.toNat) (0+(c.iA (0+(s.x.p (0+y0.toNat)).toNat) (0+(s.x.pc (0+y0.toNat)).toNat)).toNat) != -O 1) (nN [(4,.lt2 0 1 0 1)] (g86 s.x y0 c (g339 c s.x y0 (g135 i p (g135 i p (U (Φ (if 0=0/\i=i then O 10 else s.f.ln i,if 0=0/\i=i then s.x.kd (0+y0.toNat) (0+(c.iA (0+(s.x.p (0+y0.toNat)).toNat) (0+(s.x.pc (0+y0.toNat)).toNat)).toNat) else s.f.j i)) (g244 c p s.m s s.x s.f (U (∀(e:Nat),e<p.fn->(if 0=0/\e=i then O 10 else s.f.ln e)=if 0=0/\e=i then if 0=0/\i=i then O 10 else s.f.ln i else s.f.ln e) (nN (g56 p s.f []) (U (∀(e:Nat),e<p.fn->(if 0=0/\e=i then s.x.kd (0+y0.toNat) (0+(c.iA (0+(s.x.p (0+y0.toNat)).toNat) (0+(s.x.pc (0+y0.toNat)).toNat)).toNat) else s.f.j e)=if 0=0/\e=i then if 0=0/\i=i then s.x.kd (0+y0.toNat) (0+(c.iA (0+(s.x.p (0+y0.toNat)).toNat) (0+(s.x.pc (0+y0.toNat)).toNat)).toNat) else s.f.j i else s.f.j e) (g51 p s.f (nN (g47 s []) zw)))))))))))) (g11 i p (U (Φ (if 0=0/\i=i then O 4 else s.f.ln i,s.f.j i)) (g244 c p s.m s s.x s.f (g271 p i s.f (nN (g47 s []) zw))))))))) (g11 i p (U (Φ (if 0=0/\i=i then O 4 else s.f.ln i,s.f.j i)) (g244 c p s.m s s.x s.f (g271 p i s.f (nN (g47 s []) zw))))))))))))))))))))))))) (g356 i p Φ s.f (g244 c p s.m s s.x s.f (g132 p i s.f (nN (g47 s []) zw))))) (g356 i p Φ s.f (g244 c p s.m s s.x s.f (g132 p i s.f (nN (g47 s []) zw)))))))))):=by kernel_rfl
def ΦO(c:Cf)(s:Es)(i:Nat)(y:Int×Int):Prop:=y.1≠1/\(y.1≠23->tsk0 c (tpF s.f i))/\(y.1=3\/y.1=5->pcV c s.x (tpF s.f i).toNat)
structure preO (c:Cf) (p:Ep) (s:Es) (i:Nat):Prop where
 ha:preA c p s i
 hfc:p.fn<=p.fc
 hC:okC c
 hl:1<=s.f.ll i
 hr:s.f.ln i≠1->s.f.ln i≠3/\s.f.ln i≠5/\tsk0 c (tpF s.f i)
section
variable {b:Nat} {c:Cf} {p:Ep} {s:Es} {i:Nat} {x:Int}
theorem fO_a(hr:s.f.ln i≠1->s.f.ln i≠3/\s.f.ln i≠5/\tsk0 c (tpF s.f i))(h:(s.f.ln i != O 1)=true){j:Int}:ΦO c s i (s.f.ln i,j):=by
 have h1:s.f.ln i≠1:=by rintro e;rw[e]at h;simp at h
 obtain⟨h2,h3,h4⟩:=hr h1
 exact⟨h1,fun _=>h4,fun e=>(e.elim h2 h3).elim⟩
theorem fO_n{L:Nat}{j:Int}(h1:L≠1)(h3:L≠3)(h5:L≠5)(ht:L≠23->tsk0 c (tpF s.f i)):ΦO c s i (if 0=0/\i=i then O L else s.f.ln i,j):=by
 rw[if_pos ⟨rfl,rfl⟩]
 refine⟨by simp only[zz];omega,fun h=>ht (by simp only[zz]at h;omega),fun h=>?_⟩
 simp only[zz]at h
 omega
theorem fO_p{L:Nat}{j:Int}(h1:L≠1)(ht:tsk0 c (tpF s.f i))(hp:pcV c s.x (tpF s.f i).toNat):ΦO c s i (if 0=0/\i=i then O L else s.f.ln i,j):=by
 rw[if_pos ⟨rfl,rfl⟩]
 exact⟨by simp only[zz];omega,fun _=>ht,fun _=>hp⟩
theorem tk_o(hx:x=s.f.ld i (s.f.ll i-1))(h1:decide (x >= O 0)=true)(h2:decide (x<c.T)=true):tsk0 c (tpF s.f i):=by
 unfold tpF tsk0
 rw[<-hx]
 exact⟨of_decide_eq_true h1,of_decide_eq_true h2⟩
theorem tk_n(hs:okE b c p s)(h1:decide (x >= O 0)=true)(h2:decide (x<c.T)=true):O 0<=x/\x<(s.x.n:Int):=by
 have h1:=of_decide_eq_true h1
 have h2:=of_decide_eq_true h2
 have h3:=hs.n
 simp only[zz]at *
 omega
theorem mkPv{t:Nat}(h1:decide (s.x.p t<O 0)=false)(h2:decide (s.x.p t >= (c.nP:Int))=false)(h3:decide (s.x.pc t<O 0)=false)(h4:decide (s.x.pc t >= (c.lenP (0+(s.x.p t).toNat):Int))=false):pcV c s.x t:=by
 have h1:=of_decide_eq_false h1
 have h2:=of_decide_eq_false h2
 have h3:=of_decide_eq_false h3
 have h4:=of_decide_eq_false h4
 rw[z8]at h4
 simp only[zz]at *
 exact⟨⟨by omega,by omega⟩,by omega,by omega⟩
theorem pv_o(hx:x=s.f.ld i (s.f.ll i-1))(h:pcV c s.x (0+x.toNat)):pcV c s.x (tpF s.f i).toNat:=by
 rw[z8,hx]at h
 exact h
theorem pr_o(h1:decide (s.x.p (0+x.toNat)<O 0)=false)(h2:decide (s.x.p (0+x.toNat) >= (c.nP:Int))=false):O 0<=s.x.p (0+x.toNat)/\s.x.p (0+x.toNat)<(c.nP:Int):=by
 have h1:=of_decide_eq_false h1
 have h2:=of_decide_eq_false h2
 simp only[zz]at *
 omega
theorem kid_o(hC:okC c){t:Nat}(h:pcV c s.x t)(h0:(c.iO (0+(s.x.p t).toNat) (0+(s.x.pc t).toNat) == O 0)=false)(h1:(c.iO (0+(s.x.p t).toNat) (0+(s.x.pc t).toNat) == O 1)=false):0<=c.iA (0+(s.x.p t).toNat) (0+(s.x.pc t).toNat):=by
 obtain⟨⟨a1,a2⟩,a3,a4⟩:=h
 rw[z8,z8]at *
 have:=(hC.2.1.2 (s.x.p t).toNat (by omega)).2 (s.x.pc t).toNat (by omega)
 unfold okI at this
 simp only[zz,beq_eq_false_iff_ne,ne_eq]at h0 h1
 rcases this with h|h|h
 ·exact(h0 h.1).elim
 ·exact(h1 h.1).elim
 ·exact h.2.1.1
theorem kid_1{a:Int}{n:Nat}(h:0<=a)(hk:decide (a<(n:Int))=true):O 0<=a/\a<(n:Int):=⟨h,of_decide_eq_true hk⟩
theorem kid_2{a:Int}{t:Nat}(h:0<=a)(hk:decide (a<(s.x.kl t:Int))=true)(ht:t<s.x.n):0+a.toNat<upto s.x.n s.x.kl t:=by
 have hk:=of_decide_eq_true hk
 unfold upto
 rw[if_pos ht]
 omega
theorem lj_e{f:Nat->Int}{e:Nat}:f e=if 0=0/\e=i then f i else f e:=by
 split
 ·rename_i h;rw[h.2]
 ·rfl
theorem pc_ge{a:Int}(h:decide (a<O 0)=false):decide (a >= O 0)=true:=by
 have h:=of_decide_eq_false h
 exact decide_eq_true (by omega)
end
theorem qtkn{p:Prop}(h:p:=by exact tk_n ‹_› ‹_› ‹_›):p:=h
theorem qpvn{p:Prop}(h:p:=by exact mkPv ‹_› ‹_› ‹_› ‹_›):p:=h
theorem vhCho{c:Cf}{p:Ep}{s:Es}{i:Nat}(h:preO c p s i):zad (vCho c p s i (ΦO c s i)):=by
 obtain⟨ha,hfc,hC,hl,hr⟩:=h
 obtain⟨hi,hY,hs⟩:=id ha
 have hD:=okD hY
 have hb:(900000:Nat)<=900000:=Z _
 refine zad.pr (vCho_eq ..) ?_
 (with_reducible repeat' first|exact zk|refine zn ?_|refine zm ?_|refine zl ?_ ?_|refine zi ?_|refine nN_h rfl ?_|refine z9 ?_ ?_|intro _)
 all_goals first
  | exact qlfc
  | exact lv_3
  | exact ll_u ‹_› ‹_›
  | exact tp_p ‹_› ‹_› ‹_› ‹_›
  | exact⟨Z _,by assumption⟩
  | exact lj_e
  | exact fO_a hr ‹_›
  | exact fO_n (by decide) (by decide) (by decide) (fun h=>(h rfl).elim)
  | exact fO_n (by decide) (by decide) (by decide) (fun _=>tk_o ‹_› ‹_› ‹_›)
  | exact fO_p (by decide) (tk_o ‹_› ‹_› ‹_›) (pv_o ‹_› qpvn)
  | exact qtkn
  | exact zbk qtkn
  | exact(zbk qtkn).2
  | exact pr_o ‹_› ‹_›
  | exact zbk (pr_o ‹_› ‹_›)
  | exact pv_3 qpvn
  | exact pv_4 qpvn
  | exact kid_1 (kid_o hC qpvn ‹_› ‹_›) ‹_›
  | exact kid_2 (kid_o hC qpvn ‹_› ‹_›) ‹_› (zbk qtkn).2
  | exact pc_ge ‹_›
  | trace_state
structure Fr where
 kd:Int
 ln:Int
 qt:Int
 qb:Int
 qr:Int
 qc:Int
 a:Int
 b:Int
 d:Int
 i:Int
 j:Int
 n:Int
 t:Int
 u:Int
 v:Int
 w:Int
 x:Int
structure Xn where
 r:Fr
 ok:Bool
 y:Int×Int
noncomputable section
def Fr.cs(r:Fr)(L:SC):List SC:=[i6 r.kd,i6 r.ln,i6 r.qt,i6 r.qb,i6 r.qr,i6 r.qc,i6 r.a,i6 r.b,i6 r.d,i6 r.i,i6 r.j,i6 r.n,i6 r.t,uw r.u,uw r.v,uw r.w,uw r.x,L]
def rdFr:List SC->Option (Fr×SC)
 | [c0,c1,c2,c3,c4,c5,c6,c7,c8,c9,c10,c11,c12,c13,c14,c15,c16,L]=>match numsC [c0,c1,c2,c3,c4,c5,c6,c7,c8,c9,c10,c11,c12,c13,c14,c15,c16]with
  | some [a0,a1,a2,a3,a4,a5,a6,a7,a8,a9,a10,a11,a12,a13,a14,a15,a16]=>some (⟨a0,a1,a2,a3,a4,a5,a6,a7,a8,a9,a10,a11,a12,a13,a14,a15,a16⟩,L)
  | _=>none
 | _=>none
def rdLj(i:Nat)(H:Hp):Option (Int×Int):=match rdFk 8 H.h with
 | some (f,_)=>some (f.ln i,f.j i)
 | none=>none
def rdXn(i:Nat)(s:SV)(H:Hp):Option Xn:=match s with
 | .t [.a l,.c b]=>match rdFr l,blC b,rdLj i H with
  | some (r,_),some ok,some y=>some ⟨r,ok,y⟩
  | _,_,_=>none
 | _=>none
def selXn(s:SV)(H:Hp):Bool:=match s with
 | .t [.a l,_]=>match (l[17]?:Option SC) with
  | some (.slc ..)=>true
  | _=>false
 | _=>false
def capXn(s:SV)(H:Hp):Option (Int×Int×Nat):=match s with
 | .t [.a l,_]=>match rdFr l with
  | some (r,.slc _ _ _ _ _ c)=>some (r.a,r.b,c.v)
  | _=>none
 | _=>none
def keyXn(s:SV)(H:Hp):List Nat:=match s with
 | .t [.a l,_]=>match (l[17]?:Option SC) with
  | some (.slc k _ _ _ _ _)=>[k]
  | _=>[]
 | _=>[]
def frRun(w t:Int):Fr:=⟨24,0,0,0,0,0,w,t,0,0,0,0,0,0,0,0,0⟩
def za6(s:Es)(i:Nat):Bool:=s.f.kd i == O 25&&s.f.ln i == O 7
def psEn(c:Cf)(p:Ep)(s:Es)(i:Nat)(Φ:Xn->Prop):PS:=.br (za6 s i) selXn
 (.leaf (Int×Int×Nat) 11 capXn keyXn (fun x=>1<=x.2.2) (fun x=>.t [.a ((frRun x.1 x.2.1).cs (.slc 10 (.k 0) (.k 0) 1 (.k 1) (.s x.2.2))),.c (.kb true)]) (fun x=>(10,.row 3 x.2.2 1 [.ci .i64 fun _ _=>x.2.1])::s.hE c p 7))
 (.leaf Xn 10 (rdXn i) (fun _ _=>[]) Φ (fun x=>.t [.a (x.r.cs .nils),.c (.bv x.ok)]) (fun x=>(s.lj i x.y).hE c p 7))
def cCho:List SV->Hp->Out (SV×Hp):=fun args H=>match args with
 | [.c (.ptr ke _ _ _ _),.c (.ptr kf _ i _ _)]=>fN ke fun ke=>fN kf fun kf=>match rdEp ke kf H.h with
  | some (c,p,s,σ)=>useP σ 10 (argLf i.v) (s.h c p) (.need (preO c p s i.v) (.any (Int×Int) (ΦO c s i.v) fun y=>.leaf (.t [],⟨(s.lj i.v y).hE c p 7,10,fun _=>True⟩))) args H
  | none=>.bad 486
 | _=>.bad 487
theorem cCho_ok:zab P gChoose cCho:=zac fun args H=>by
 unfold cCho
 simp only[fN_eq]
 repeat' split
 all_goals first
  | exact .inl ⟨_,rfl⟩
  | exact .inr ⟨_,_,_,_,_,rfl,zae za0 fun h=>vhCho h⟩
def conEt:Con:=Con.add gChoose cCho conLf
theorem conEt_ok:zaj P conEt:=.add cCho_ok za0
def vEnt(c:Cf)(p:Ep)(s:Es)(i:Nat)(Φ:Xn->Prop):V:=verF P conEt 8 10 gEnter [] .nil (argLf i) ⟨s.h c p,10,fun _=>True⟩ ((psEn c p s i Φ).fin 10)
end
abbrev g110(a0:Fk)(a1:Nat)(l:LP):LP:=(5,.eqI 0 0)::qE (a0.a a1)::l
abbrev g159(l:LP):LP:=(9,.eqI 0 0)::qE true::l
abbrev g160(a0:Nat)(a1:Ep)(a2:Es)(k:V):V:=g79 a0 a1 (U (za6 a2 a0=false) k)
abbrev g164(a0:Xn->Prop)(a1:Fk)(a2:Nat)(k:V):V:=U (a0 (Xn.mk (En.Fr.mk (O 9) (O 0) (O 0) (O 0) (O 0) (O 0) (O 0) (O 0) (O 0) (O 0) (O 0) (O 0) (O 0) (O 0) (O 0) (O 0) (O 0)) true (a1.ln a2,a1.j a2))) (nN [(1,.eqI 9 9)] k)
abbrev g168(l:LP):LP:=(17,.eqI 0 0)::qE false::l
abbrev g169(a0:Xn->Prop)(a1:Fk)(a2:Nat)(a3:Int×Int)(k:V):V:=U (a0 (Xn.mk (En.Fr.mk (O 14) (O 0) (O 0) (O 0) (O 0) (O 0) (a1.a a2) (a1.n a2) (O 0) (O 0) (O 0) (O 0) (O 0) (O 0) (O 0) (O 0) (O 0)) true (if 0=0/\a2=a2 then a3.fst else a1.ln a2,if 0=0/\a2=a2 then a3.snd else a1.j a2))) (nN [(1,.eqI 14 14)] k)
abbrev g182(a0:Nat)(a1:Ep)(a2:Es)(k:V):V:=g17 a0 a1 (U (za6 a2 a0=false) k)
abbrev g183(a0:Xn->Prop)(a1:Fk)(a2:Nat)(k:V):V:=U (a0 (Xn.mk (En.Fr.mk (O 14) (O 0) (O 0) (O 0) (O 0) (O 0) (a1.a a2) (a1.n a2) (O 0) (O 0) (O 0) (O 0) (O 0) (O 0) (O 0) (O 0) (O 0)) true (a1.ln a2,a1.j a2))) (nN [(1,.eqI 14 14)] k)
abbrev g193(a0:Xn->Prop)(a1:Fk)(a2:Nat)(k:V):V:=U (a0 (Xn.mk (En.Fr.mk (O 5) (O 0) (O 0) (O 0) (O 0) (O 0) (a1.a a2) (a1.t a2) (a1.b a2) (O 0) (O 0) (O 0) (O 0) (O 0) (O 0) (O 0) (O 0)) true (a1.ln a2,a1.j a2))) (nN [(1,.eqI 5 5)] k)
abbrev g213(a0:Nat)(a1:Ep)(a2:Es)(k:V):V:=g11 a0 a1 (U (za6 a2 a0=false) k)
abbrev g230(l:LP):LP:=(10,.eqI 0 0)::qE true::l
abbrev g233(a0:Cf)(k:Q4->V):V:=U (a0.D<=O 64) (nA okQ4 fun v0=>k v0)
abbrev g15(a0:Es)(a1:Nat)(a2:Xn->Prop)(a3:Fk)(k:V):V:=U (za6 a0 a1=false) (U (a2 (Xn.mk (En.Fr.mk (O 0) (O 0) (O 0) (O 0) (O 0) (O 0) (O 0) (O 0) (O 0) (O 0) (O 0) (O 0) (O 0) (O 0) (O 0) (O 0) (O 0)) false (a3.ln a1,a3.j a1))) k)
abbrev g236(a0:Fk)(a1:Nat)(a2:Es)(a3:Xn->Prop)(k:V):V:=U ((a0.ln a1 == O 3)=false) (g15 a2 a1 a3 a0 k)
abbrev g260(l:LP):LP:=(8,.eqI 0 0)::qE true::l
abbrev g328(a0:Ep)(a1:Fk)(a2:Nat)(a3:Int×Int)(k:V):V:=nN [qF a0.fn a1.kd] (U (∀(e:Nat),e<a0.fn->(if 0=0/\e=a2 then a3.fst else a1.ln e)=if 0=0/\e=a2 then if 0=0/\a2=a2 then a3.fst else a1.ln a2 else a1.ln e) (nN (g56 a0 a1 []) (U (∀(e:Nat),e<a0.fn->(if 0=0/\e=a2 then a3.snd else a1.j e)=if 0=0/\e=a2 then if 0=0/\a2=a2 then a3.snd else a1.j a2 else a1.j e) (g51 a0 a1 k))))
abbrev g369(a0:Nat)(a1:Ep)(k:V):V:=nN [(13,.lt2 0 1 0 1)] (g79 a0 a1 k)
abbrev g383(l:LP):LP:=(16,.eqI 0 0)::qE true::l
theorem vEnt_eq(c:Cf)(p:Ep)(s:Es)(i:Nat)(Φ:Xn->Prop):V.pr (.b .z (.b .z (.b .z (.b (.b (.b (.b (.b (.b (.b .z (.f .z)) (.f .z)) (.f .z)) (.f .z)) (.f .z)) .z) (.b .z (.b .z (.b .z (.b (.b .z (.b .z (.b .z (.b .z (.b (.t .z) .z))))) (.b (.b (.b (.b .z (.t .z)) (.t .z)) (.f .z)) .z))))))))) (vEnt c p s i Φ)=
 g11 i p (zj (s.f.kd i == O 5) (g11 i p (zj (s.f.ln i == O 1) (g369 i p (nN (g19 c (g291 s.f i (g71 c []))) (g233 c fun y0=>g182 i p s (U (Φ (Xn.mk (En.Fr.mk (O 0) (O 0) y0.t y0.b y0.r y0.c (s.f.d i) (O 0) (O 0) (O 0) (O 0) (O 0) (O 0) (O 0) (O 0) (O 0) (O 0)) true (s.f.ln i,s.f.j i))) (nN ((2,.eqI 0 0)::qE y0.t::qE y0.b::qE y0.r::qE y0.c::qE (s.f.d i)::g230 []) (g137 c p s.m s s.x s.f i zw)))))) (g125 i p c (nN [qE (s.f.a i),qE c.W] (g143 s.f i c fun y0=>g182 i p s (U (Φ (Xn.mk (En.Fr.mk (O 3) (O 0) (O 0) (O 0) (O 0) (O 0) y0 (s.f.b i) (O 0) (O 0) (O 0) (O 0) (O 0) (O 0) (O 0) (O 0) (O 0)) true (s.f.ln i,s.f.j i))) (nN ((1,.eqI 3 3)::(5,.eqI 0 0)::qE y0::qE (s.f.b i)::g159 []) (g137 c p s.m s s.x s.f i zw)))))))) (zj (s.f.kd i == O 6) (g11 i p (zj (s.f.ln i == O 2) (g369 i p (nN (g19 c (qE (s.f.a i)::qE (s.f.i i)::g71 c [])) (g233 c fun y0=>U (za6 s i=false) (U (Φ (Xn.mk (En.Fr.mk (O 1) (O 0) y0.t y0.b y0.r y0.c (O 0) (O 0) (O 0) (O 0) (O 0) (O 0) (O 0) (O 0) (O 0) (O 0) (O 0)) true (s.f.ln i,s.f.j i))) (nN (g351 [qE y0.t,qE y0.b,qE y0.r,qE y0.c,(11,.eqI 0 0),qE true]) (g137 c p s.m s s.x s.f i zw)))))) (zj (s.f.ln i == O 3) (g125 i p c (nN [qE (s.f.a i),qE c.W] (g143 s.f i c fun y0=>g17 i p (g369 i p (nN (g19 c (qE (s.f.a i)::qE (s.f.i i)::g71 c [])) (g233 c fun y1=>U (za6 s i=false) (U (Φ (Xn.mk (En.Fr.mk (O 4) (O 0) y1.t y1.b y1.r y1.c y0 (s.f.i i) (O 0) (O 0) (O 0) (O 0) (O 0) (O 0) (O 0) (O 0) (O 0)) true (s.f.ln i,s.f.j i))) (nN ((1,.eqI 4 4)::(1,.eqI 0 0)::qE y1.t::qE y1.b::qE y1.r::qE y1.c::qE y0::qE (s.f.i i)::g159 []) (g137 c p s.m s s.x s.f i zw))))))))) (g15 s i Φ s.f (nN (g168 []) (g137 c p s.m s s.x s.f i zw)))))) (zj (s.f.kd i == O 15) (g11 i p (zj (s.f.ln i == O 4) (g79 i p (g182 i p s (g193 Φ s.f i (nN (g110 s.f i (qE (s.f.t i)::qE (s.f.b i)::g260 [])) (g137 c p s.m s s.x s.f i zw))))) (g15 s i Φ s.f (nN (g168 []) (g137 c p s.m s s.x s.f i zw))))) (zj (s.f.kd i == O 17) (g17 i p (zj (s.f.ln i == O 1) (g17 i p (zj (decide (s.f.b i >= O 0)) (zj (decide (s.f.b i<c.T)) (zj (decide (s.f.b i<(↑s.x.n:Int))) (g17 i p (zj (decide (s.f.d i >= O 0)) (g167 i p (zj (decide (s.f.d i<c.L)) (g79 i p (g182 i p s (U (Φ (Xn.mk (En.Fr.mk (O 16) (O 0) (O 0) (O 0) (O 0) (O 0) (s.f.a i) (s.f.b i) (s.f.d i) (O 0) (O 0) (O 0) (O 0) (O 0) (O 0) (O 0) (O 0)) true (s.f.ln i,s.f.j i))) (nN ((1,.eqI 16 16)::g110 s.f i (qE (s.f.b i)::qE (s.f.d i)::g260 [])) (g137 c p s.m s s.x s.f i zw))))) (g11 i p (g236 s.f i s Φ (nN (g168 []) (g137 c p s.m s s.x s.f i zw)))))) (g11 i p (g236 s.f i s Φ (nN (g168 []) (g137 c p s.m s s.x s.f i zw)))))) (g11 i p (g236 s.f i s Φ (nN (g168 []) (g137 c p s.m s s.x s.f i zw))))) (g11 i p (g236 s.f i s Φ (nN (g168 []) (g137 c p s.m s s.x s.f i zw))))) (g11 i p (g236 s.f i s Φ (nN (g168 []) (g137 c p s.m s s.x s.f i zw)))))) (g11 i p (zj (s.f.ln i == O 3) (g79 i p (g182 i p s (U (Φ (Xn.mk (En.Fr.mk (O 5) (O 0) (O 0) (O 0) (O 0) (O 0) (s.f.a i) (s.f.d i) (s.f.b i) (O 0) (O 0) (O 0) (O 0) (O 0) (O 0) (O 0) (O 0)) true (s.f.ln i,s.f.j i))) (nN ((1,.eqI 5 5)::g110 s.f i (qE (s.f.d i)::qE (s.f.b i)::g260 [])) (g137 c p s.m s s.x s.f i zw))))) (g15 s i Φ s.f (nN (g168 []) (g137 c p s.m s s.x s.f i zw))))))) (zj (s.f.kd i == O 18) (g11 i p (zj (s.f.ln i == O 6) (g79 i p (g182 i p s (g193 Φ s.f i (nN (g110 s.f i (qE (s.f.t i)::qE (s.f.b i)::g260 [])) (g137 c p s.m s s.x s.f i zw))))) (g15 s i Φ s.f (nN (g168 []) (g137 c p s.m s s.x s.f i zw))))) (zj (s.f.kd i == O 22) (g11 i p (zj (s.f.ln i == O 2) (g213 i p s (U (Φ (Xn.mk (En.Fr.mk (O 8) (O 0) (O 0) (O 0) (O 0) (O 0) (s.f.a i) (O 0) (O 0) (O 0) (O 0) (O 0) (O 0) (O 0) (O 0) (O 0) (O 0)) true (s.f.ln i,s.f.j i))) (nN ((1,.eqI 8 8)::g110 s.f i (g230 [])) (g137 c p s.m s s.x s.f i zw)))) (zj (s.f.ln i == O 3) (g213 i p s (U (Φ (Xn.mk (En.Fr.mk (O 11) (O 0) (O 0) (O 0) (O 0) (O 0) (s.f.a i) (O 0) (O 0) (O 0) (O 0) (O 0) (O 0) (O 0) (O 0) (O 0) (O 0)) true (s.f.ln i,s.f.j i))) (nN ((1,.eqI 11 11)::g110 s.f i (g230 [])) (g137 c p s.m s s.x s.f i zw)))) (zj (s.f.ln i == O 5) (g79 i p (g182 i p s (U (Φ (Xn.mk (En.Fr.mk (O 5) (O 0) (O 0) (O 0) (O 0) (O 0) (s.f.a i) (s.f.t i) (s.f.n i) (O 0) (O 0) (O 0) (O 0) (O 0) (O 0) (O 0) (O 0)) true (s.f.ln i,s.f.j i))) (nN ((1,.eqI 5 5)::g110 s.f i (qE (s.f.t i)::qE (s.f.n i)::g260 [])) (g137 c p s.m s s.x s.f i zw))))) (zj (s.f.ln i == O 6) (U (za6 s i=false) (g164 Φ s.f i (nN (g383 []) (g137 c p s.m s s.x s.f i zw)))) (zj (s.f.ln i == O 7) (g160 i p s (U (Φ (Xn.mk (En.Fr.mk (O 20) (O 0) (O 0) (O 0) (O 0) (O 0) (s.f.a i) (s.f.j i) (O 0) (O 0) (O 0) (O 0) (O 0) (O 0) (O 0) (O 0) (O 0)) true (s.f.ln i,s.f.j i))) (nN ((1,.eqI 20 20)::g110 s.f i (qE (s.f.j i)::g159 [])) (g137 c p s.m s s.x s.f i zw)))) (g15 s i Φ s.f (nN (g168 []) (g137 c p s.m s s.x s.f i zw))))))))) (zj (s.f.kd i == O 23) (g11 i p (zj (s.f.ln i == O 1) (g213 i p s (U (Φ (Xn.mk (En.Fr.mk (O 6) (O 0) (O 0) (O 0) (O 0) (O 0) (s.f.a i) (O 0) (O 0) (O 0) (O 0) (O 0) (O 0) (O 0) (O 0) (O 0) (O 0)) true (s.f.ln i,s.f.j i))) (nN ((1,.eqI 6 6)::g110 s.f i (g230 [])) (g137 c p s.m s s.x s.f i zw)))) (g160 i p s (g183 Φ s.f i (nN (g110 s.f i (qE (s.f.n i)::g159 [])) (g137 c p s.m s s.x s.f i zw)))))) (zj (s.f.kd i == O 24) (nN [qE i] (g249 c p s.m s s.x s.f (U (preO c p s i) (nA (ΦO c s i) fun y0=>g11 i p (zj ((if 0=0/\i=i then y0.fst else s.f.ln i) == O 5) (U (za6 s i=false) (U (Φ (Xn.mk (En.Fr.mk (O 12) (O 0) (O 0) (O 0) (O 0) (O 0) (O 0) (O 0) (O 0) (O 0) (O 0) (O 0) (O 0) (O 0) (O 0) (O 0) (O 0)) true (if 0=0/\i=i then y0.fst else s.f.ln i,if 0=0/\i=i then y0.snd else s.f.j i))) (nN ((1,.eqI 12 12)::g383 []) (g61 c p s.m s s.x (g328 p s.f i y0 (nN (g47 s []) zw)))))) (zj ((if 0=0/\i=i then y0.fst else s.f.ln i) == O 6) (g160 i p s (U (Φ (Xn.mk (En.Fr.mk (O 13) (O 0) (O 0) (O 0) (O 0) (O 0) (s.f.n i) (s.f.d i) (O 0) (O 0) (O 0) (O 0) (O 0) (O 0) (O 0) (O 0) (O 0)) true (if 0=0/\i=i then y0.fst else s.f.ln i,if 0=0/\i=i then y0.snd else s.f.j i))) (nN ((1,.eqI 13 13)::(5,.eqI 0 0)::qE (s.f.n i)::qE (s.f.d i)::g159 []) (g61 c p s.m s s.x (g328 p s.f i y0 (nN (g47 s []) zw)))))) (zj ((if 0=0/\i=i then y0.fst else s.f.ln i) == O 7) (g79 i p (g182 i p s (U (Φ (Xn.mk (En.Fr.mk (O 5) (O 0) (O 0) (O 0) (O 0) (O 0) (s.f.a i) (s.f.d i) (s.f.n i) (O 0) (O 0) (O 0) (O 0) (O 0) (O 0) (O 0) (O 0)) true (if 0=0/\i=i then y0.fst else s.f.ln i,if 0=0/\i=i then y0.snd else s.f.j i))) (nN ((1,.eqI 5 5)::g110 s.f i (qE (s.f.d i)::qE (s.f.n i)::g260 [])) (g61 c p s.m s s.x (g328 p s.f i y0 (nN (g47 s []) zw))))))) (zj ((if 0=0/\i=i then y0.fst else s.f.ln i) == O 8) (g160 i p s (U (Φ (Xn.mk (En.Fr.mk (O 20) (O 0) (O 0) (O 0) (O 0) (O 0) (s.f.a i) (s.f.d i) (O 0) (O 0) (O 0) (O 0) (O 0) (O 0) (O 0) (O 0) (O 0)) true (if 0=0/\i=i then y0.fst else s.f.ln i,if 0=0/\i=i then y0.snd else s.f.j i))) (nN ((1,.eqI 20 20)::g110 s.f i (qE (s.f.d i)::g159 [])) (g61 c p s.m s s.x (g328 p s.f i y0 (nN (g47 s []) zw)))))) (zj ((if 0=0/\i=i then y0.fst else s.f.ln i) == O 9) (U (((if 0=0/\i=i then y0.fst else s.f.ln i) == O 9)=true) (g160 i p s (g169 Φ s.f i y0 (nN (g110 s.f i (qE (s.f.n i)::g159 [])) (g61 c p s.m s s.x (g328 p s.f i y0 (nN (g47 s []) zw))))))) (zj ((if 0=0/\i=i then y0.fst else s.f.ln i) == O 22) (g160 i p s (g169 Φ s.f i y0 (nN (g110 s.f i (qE (s.f.n i)::g159 [])) (g61 c p s.m s s.x (g328 p s.f i y0 (nN (g47 s []) zw)))))) (zj ((if 0=0/\i=i then y0.fst else s.f.ln i) == O 14) (g79 i p (g182 i p s (U (Φ (Xn.mk (En.Fr.mk (O 17) (O 0) (O 0) (O 0) (O 0) (O 0) (s.f.a i) (if 0=0/\i=i then y0.snd else s.f.j i) (s.f.t i) (O 0) (O 0) (O 0) (O 0) (O 0) (O 0) (O 0) (O 0)) true (if 0=0/\i=i then y0.fst else s.f.ln i,if 0=0/\i=i then y0.snd else s.f.j i))) (nN ((1,.eqI 17 17)::g110 s.f i []) (U ((if 0=0/\i=i then y0.snd else s.f.j i)=if 0=0/\i=i then y0.snd else s.f.j i) (nN (qE (s.f.t i)::g260 []) (g61 c p s.m s s.x (g328 p s.f i y0 (nN (g47 s []) zw))))))))) (zj ((if 0=0/\i=i then y0.fst else s.f.ln i) == O 20) (g160 i p s (U (Φ (Xn.mk (En.Fr.mk (O 15) (O 0) (O 0) (O 0) (O 0) (O 0) (s.f.a i) (s.f.n i) (O 0) (O 0) (O 0) (O 0) (O 0) (O 0) (O 0) (O 0) (O 0)) true (if 0=0/\i=i then y0.fst else s.f.ln i,if 0=0/\i=i then y0.snd else s.f.j i))) (nN ((1,.eqI 15 15)::g110 s.f i (qE (s.f.n i)::g159 [])) (g61 c p s.m s s.x (g328 p s.f i y0 (nN (g47 s []) zw)))))) (zj ((if 0=0/\i=i then y0.fst else s.f.ln i) == O 21) (g160 i p s (U (Φ (Xn.mk (En.Fr.mk (O 20) (O 0) (O 0) (O 0) (O 0) (O 0) (s.f.a i) (s.f.t i) (O 0) (O 0) (O 0) (O 0) (O 0) (O 0) (O 0) (O 0) (O 0)) true (if 0=0/\i=i then y0.fst else s.f.ln i,if 0=0/\i=i then y0.snd else s.f.j i))) (nN ((1,.eqI 20 20)::g110 s.f i (qE (s.f.t i)::g159 [])) (g61 c p s.m s s.x (g328 p s.f i y0 (nN (g47 s []) zw)))))) (U (za6 s i=false) (U (Φ (Xn.mk (En.Fr.mk (O 0) (O 0) (O 0) (O 0) (O 0) (O 0) (O 0) (O 0) (O 0) (O 0) (O 0) (O 0) (O 0) (O 0) (O 0) (O 0) (O 0)) false (if 0=0/\i=i then y0.fst else s.f.ln i,if 0=0/\i=i then y0.snd else s.f.j i))) (nN (g168 []) (g61 c p s.m s s.x (g328 p s.f i y0 (nN (g47 s []) zw))))))))))))))))))) (zj (s.f.kd i == O 25) (g11 i p (zj (s.f.ln i == O 1) (zj (c.A == O 0) (g93 i p (zj ((if 0=0/\i=i then O 2 else s.f.ln i) == O 1) (g160 i p s (U (Φ (Xn.mk (En.Fr.mk (O 18) (O 0) (O 0) (O 0) (O 0) (O 0) (s.f.a i) (s.f.j i) (O 0) (O 0) (O 0) (O 0) (O 0) (O 0) (O 0) (O 0) (O 0)) true (if 0=0/\i=i then O 2 else s.f.ln i,s.f.j i))) (nN ((1,.eqI 18 18)::g110 s.f i (qE (s.f.j i)::g159 [])) (g244 c p s.m s s.x s.f (g84 p i s.f (nN (g47 s []) zw)))))) (U (((if 0=0/\i=i then O 2 else s.f.ln i) == O 2)=true) (g213 i p s (U (Φ (Xn.mk (En.Fr.mk (O 23) (O 0) (O 0) (O 0) (O 0) (O 0) (s.f.a i) (O 0) (O 0) (O 0) (O 0) (O 0) (O 0) (O 0) (O 0) (O 0) (O 0)) true (if 0=0/\i=i then O 2 else s.f.ln i,s.f.j i))) (nN ((1,.eqI 23 23)::g110 s.f i (g230 [])) (g244 c p s.m s s.x s.f (g84 p i s.f (nN (g47 s []) zw))))))))) (g11 i p (U ((s.f.ln i == O 1)=true) (g160 i p s (U (Φ (Xn.mk (En.Fr.mk (O 18) (O 0) (O 0) (O 0) (O 0) (O 0) (s.f.a i) (s.f.j i) (O 0) (O 0) (O 0) (O 0) (O 0) (O 0) (O 0) (O 0) (O 0)) true (s.f.ln i,s.f.j i))) (nN ((1,.eqI 18 18)::g110 s.f i (qE (s.f.j i)::g159 [])) (g137 c p s.m s s.x s.f i zw))))))) (g11 i p (U ((s.f.ln i == O 1)=false) (zj (s.f.ln i == O 2) (g213 i p s (U (Φ (Xn.mk (En.Fr.mk (O 23) (O 0) (O 0) (O 0) (O 0) (O 0) (s.f.a i) (O 0) (O 0) (O 0) (O 0) (O 0) (O 0) (O 0) (O 0) (O 0) (O 0)) true (s.f.ln i,s.f.j i))) (nN ((1,.eqI 23 23)::g110 s.f i (g230 [])) (g137 c p s.m s s.x s.f i zw)))) (zj (s.f.ln i == O 3) (g213 i p s (U (Φ (Xn.mk (En.Fr.mk (O 22) (O 0) (O 0) (O 0) (O 0) (O 0) (s.f.a i) (O 0) (Int.negSucc 0) (O 0) (O 0) (O 0) (O 0) (O 0) (O 0) (O 0) (O 0)) true (s.f.ln i,s.f.j i))) (nN ((1,.eqI 22 22)::g110 s.f i ((1,.eqI 0 0)::qE (Int.negSucc 0)::g260 [])) (g137 c p s.m s s.x s.f i zw)))) (zj (s.f.ln i == O 4) (g213 i p s (U (Φ (Xn.mk (En.Fr.mk (O 21) (O 0) (O 0) (O 0) (O 0) (O 0) (s.f.a i) (O 0) (O 0) (O 0) (O 0) (O 0) (O 0) (O 0) (O 0) (O 0) (O 0)) true (s.f.ln i,s.f.j i))) (nN ((1,.eqI 21 21)::g110 s.f i (g230 [])) (g137 c p s.m s s.x s.f i zw)))) (zj (s.f.ln i == O 5) (g369 i p (nN (g19 c (qE (s.f.i i)::qE (s.f.d i)::g71 c [])) (g233 c fun y0=>U (za6 s i=false) (U (Φ (Xn.mk (En.Fr.mk (O 2) (O 0) y0.t y0.b y0.r y0.c (O 0) (O 0) (O 0) (O 0) (O 0) (O 0) (O 0) (O 0) (O 0) (O 0) (O 0)) true (s.f.ln i,s.f.j i))) (nN [(1,.eqI 2 2),(1,.eqI 0 0),qE y0.t,qE y0.b,qE y0.r,qE y0.c,(11,.eqI 0 0),qE true] (g137 c p s.m s s.x s.f i zw)))))) (zj (s.f.ln i == O 6) (g160 i p s (g183 Φ s.f i (nN (g110 s.f i (qE (s.f.n i)::g159 [])) (g137 c p s.m s s.x s.f i zw)))) (zj (s.f.ln i == O 7) (g79 i p (U (za6 s i=true) (nN ((1,.le 1 1)::(1,.eqI 24 24)::g110 s.f i [qE (s.f.n i),(9,.eqI 0 0),(2,.eq 1 1),(1,.le 1 1)]) (U (∀(e:Nat),e<1->e < [SC.iv IntKind.i64 (s.f.n i)].length) (U (∀(e:Nat),e<1->e=0->s.f.n i=s.f.n i) (g124 c p s.m s s.x s.f zw)))))) (zj (s.f.ln i == O 8) (g213 i p s (U (Φ (Xn.mk (En.Fr.mk (O 19) (O 0) (O 0) (O 0) (O 0) (O 0) (s.f.a i) (O 0) (O 0) (O 0) (O 0) (O 0) (O 0) (O 0) (O 0) (O 0) (O 0)) true (s.f.ln i,s.f.j i))) (nN ((1,.eqI 19 19)::g110 s.f i (g230 [])) (g137 c p s.m s s.x s.f i zw)))) (g125 i p c (nN [qE (s.f.i i),qE c.W] (g99 (nA (fun (r:Int)=>r=-O 1\/O 0<=s.f.i i/\s.f.i i<c.W) fun y0=>g17 i p (g369 i p (nN (g19 c (qE (s.f.i i)::qE (s.f.d i)::g71 c [])) (g233 c fun y1=>U (za6 s i=false) (U (Φ (Xn.mk (En.Fr.mk (O 4) (O 0) y1.t y1.b y1.r y1.c y0 (s.f.d i) (O 0) (O 0) (O 0) (O 0) (O 0) (O 0) (O 0) (O 0) (O 0)) true (s.f.ln i,s.f.j i))) (nN ((1,.eqI 4 4)::(1,.eqI 0 0)::qE y1.t::qE y1.b::qE y1.r::qE y1.c::qE y0::qE (s.f.d i)::g159 []) (g137 c p s.m s s.x s.f i zw))))))))))))))))))))) (zj (s.f.kd i == O 26) (g167 i p (zj (decide (s.f.i i >= (↑c.nU:Int))) (g15 s i Φ s.f (nN (g168 []) (g137 c p s.m s s.x s.f i zw))) (g377 i p (g320 s.f i c (g113 s.f i c (g11 i p (zj (s.f.ln i == O 1) (U (za6 s i=false) (U (Φ (Xn.mk (En.Fr.mk (O 7) (O 0) (O 0) (O 0) (O 0) (O 0) c.W (O 0) (O 0) (O 0) (O 0) (O 0) (O 0) (O 0) (O 0) (O 0) (O 0)) true (s.f.ln i,s.f.j i))) (nN ((1,.eqI 7 7)::(5,.eqI 0 0)::qE c.W::g230 []) (g137 c p s.m s s.x s.f i zw)))) (zj (s.f.ln i == O 3) (U (za6 s i=false) (U (Φ (Xn.mk (En.Fr.mk (O 12) (O 0) (O 0) (O 0) (O 0) (O 0) (O 0) (O 0) (O 0) (O 0) (O 0) (O 0) (O 0) (O 0) (O 0) (O 0) (O 0)) true (s.f.ln i,s.f.j i))) (nN ((1,.eqI 12 12)::g383 []) (g137 c p s.m s s.x s.f i zw)))) (zj (s.f.ln i == O 6) (nN [(2,.lt2 0 1 0 1)] (g182 i p s (U (Φ (Xn.mk (En.Fr.mk (O 10) (O 0) (O 0) (O 0) (O 0) (O 0) (c.uD (0+(s.f.i i).toNat)) (s.f.n i) (O 0) (O 0) (O 0) (O 0) (O 0) (O 0) (O 0) (O 0) (O 0)) true (s.f.ln i,s.f.j i))) (nN ((1,.eqI 10 10)::(5,.eqI 0 0)::qE (c.uD (0+(s.f.i i).toNat))::qE (s.f.n i)::g159 []) (g137 c p s.m s s.x s.f i zw))))) (zj (s.f.ln i == O 8) (U (za6 s i=false) (g164 Φ s.f i (nN (g383 []) (g137 c p s.m s s.x s.f i zw)))) (zj (s.f.ln i == O 9) (nN [(6,.lt2 0 1 0 1)] (U (za6 s i=false) (U (Φ (Xn.mk (En.Fr.mk (O 20) (O 0) (O 0) (O 0) (O 0) (O 0) c.W (c.uL (0+(s.f.i i).toNat)) (O 0) (O 0) (O 0) (O 0) (O 0) (O 0) (O 0) (O 0) (O 0)) true (s.f.ln i,s.f.j i))) (nN ((1,.eqI 20 20)::(5,.eqI 0 0)::qE c.W::qE (c.uL (0+(s.f.i i).toNat))::g159 []) (g137 c p s.m s s.x s.f i zw))))) (g15 s i Φ s.f (nN (g168 []) (g137 c p s.m s s.x s.f i zw)))))))))))))) (g15 s i Φ s.f (nN (g168 []) (g137 c p s.m s s.x s.f i zw))))))))))))):=by kernel_rfl
def rk(k:Int):Nat:=if k=25\/k=26 then 5 else if k=24 then 4 else if k=15\/k=17\/k=18\/k=22\/k=23 then 3 else if k=5\/k=6 then 2 else 1
structure ΦN (c:Cf) (s:Es) (i:Nat) (x:Xn):Prop where
 hr:s.f.kd i=24->ΦO c s i x.y/\(x.ok=false->x.y.1≠5)/\(x.ok=true->(x.y.1=5->x.r.kd=12)/\x.y.1≠3/\x.y.1≠23)
 hc:s.f.kd i=26->x.y.1=s.f.ln i/\(x.ok=true->s.f.i i<(c.nU:Int)/\(s.f.ln i=3->x.r.kd=12))
 hk:x.ok=true->rk x.r.kd<rk (s.f.kd i)/\x.r.kd≠24/\x.r.kd≠26
 hw:wd x.r.u/\wd x.r.v/\wd x.r.w/\wd x.r.x/\x.r.qc<=9223372036854775807
structure preN (c:Cf) (p:Ep) (s:Es) (i:Nat):Prop where
 ha:preA c p s i
 hfc:p.fn<=p.fc
 hC:okC c
 hr:s.f.kd i=24->1<=s.f.ll i/\(s.f.ln i≠1->s.f.ln i≠3/\s.f.ln i≠5/\tsk0 c (tpF s.f i))
 hc:s.f.kd i=26->0<=s.f.i i
section
variable {c:Cf} {p:Ep} {s:Es} {i:Nat} {x:Xn}
theorem ex_q4:∃x,okQ4 x:=⟨⟨0,0,0,0⟩,(by decide:(0:Int)<=64)⟩
theorem q4_c{q:Q4}(h:okQ4 q):q.c<=9223372036854775807:=Int.le_trans h (by decide)
theorem irf_k{k:Nat}(h:(s.f.kd i == O k)=true)(hk:(O k == O 25)=false):za6 s i=false:=by
 unfold za6
 rw[eq_of_beq h,hk]
 rfl
theorem irf_n(h:(s.f.kd i == O 25)=false):za6 s i=false:=by
 unfold za6
 rw[h]
 rfl
theorem irf_l{k:Nat}(h:(s.f.ln i == O k)=true)(hk:(O k == O 7)=false):za6 s i=false:=by
 unfold za6
 rw[eq_of_beq h,hk,Bool.and_false]
theorem irf_m(h:(s.f.ln i == O 7)=false):za6 s i=false:=by
 unfold za6
 rw[h,Bool.and_false]
theorem irf_t(h1:(s.f.kd i == O 25)=true)(h2:(s.f.ln i == O 7)=true):za6 s i=true:=by
 unfold za6
 rw[h1,h2]
 rfl
theorem if_2{a:Int}:((if 0=0/\i=i then O 2 else a) == O 2)=true:=by rw[if_pos ⟨rfl,rfl⟩];decide
theorem ex_o:∃x,ΦO c s i x:=⟨(23,0),(by decide:(23:Int)≠1),fun h=>(h rfl).elim,fun h=>h.elim (fun h=>absurd h (by decide:¬(23:Int)=3)) (fun h=>absurd h (by decide:¬(23:Int)=5))⟩
theorem qc0:O 0<=9223372036854775807:=by decide
theorem preO_of(ha:preA c p s i)(hfc:p.fn<=p.fc)(hC:okC c)(hr:s.f.kd i=24->1<=s.f.ll i/\(s.f.ln i≠1->s.f.ln i≠3/\s.f.ln i≠5/\tsk0 c (tpF s.f i)))(h:(s.f.kd i == O 24)=true):preO c p s i:=
 have h:=hr (eq_of_beq h)
 ⟨ha,hfc,hC,h.1,h.2⟩
theorem fN_g{k m:Nat}(h:(s.f.kd i == O k)=true)(hk:(k≠24/\k≠26))(hr:x.ok=true->x.r.kd=O m/\rk (O m)<rk (O k)/\m≠24/\m≠26)(hw:wd x.r.u/\wd x.r.v/\wd x.r.w/\wd x.r.x/\x.r.qc<=9223372036854775807):ΦN c s i x:=by
 have e:=eq_of_beq h
 refine⟨fun h=>?_,fun h=>?_,fun h=>?_,hw⟩
 ·rw[e]at h;simp only[zz]at h;omega
 ·rw[e]at h;simp only[zz]at h;omega
 ·obtain⟨h1,h2,h3,h4⟩:=hr h
  rw[h1,e]
  refine⟨h2,?_,?_⟩<;>simp only[zz]<;>omega
theorem fN_f(h1:(s.f.kd i == O 24)=false)(h2:(s.f.kd i == O 26)=false)(ho:x.ok=false)(hw:wd x.r.u/\wd x.r.v/\wd x.r.w/\wd x.r.x/\x.r.qc<=9223372036854775807):ΦN c s i x:=
 ⟨fun h=>by rw[h]at h1;simp at h1,fun h=>by rw[h]at h2;simp at h2,fun h=>by rw[ho]at h;(cases h),hw⟩
theorem fN_r{y:Int×Int}{z:Int}{m:Nat}(h:(s.f.kd i == O 24)=true)(ho:ΦO c s i y)(hy:x.y=(if 0=0/\i=i then y.1 else s.f.ln i,z))(hok:x.ok=false->((if 0=0/\i=i then y.1 else s.f.ln i) == O 5)=false)
  (hm:x.ok=true->x.r.kd=O m/\rk (O m)<4/\m≠24/\m≠26/\(m=12\/((if 0=0/\i=i then y.1 else s.f.ln i) == O 5)=false)/\∃k:Nat,((if 0=0/\i=i then y.1 else s.f.ln i) == O k)=true/\k≠3/\k≠23) (hw:wd x.r.u/\wd x.r.v/\wd x.r.w/\wd x.r.x/\x.r.qc<=9223372036854775807):ΦN c s i x:=by
 have e:=eq_of_beq h
 rw[if_pos ⟨rfl,rfl⟩]at hy hok hm
 refine⟨fun _=>⟨?_,fun h=>?_,fun h=>⟨fun h5=>?_,?_⟩⟩,fun h=>?_,fun h=>?_,hw⟩
 ·obtain⟨h1,h2,h3⟩:=ho
  rw[hy]
  exact⟨h1,h2,h3⟩
 ·have:=hok h
  rw[hy]
  simpa using this
 ·obtain⟨h1,h2,h3,h4,h5',-⟩:=hm h
  rcases h5' with rfl|h6
  ·exact h1
  ·rw[hy]at h5
   have h5:y.1=5:=h5
   rw[h5]at h6
   simp at h6
 ·obtain⟨h1,h2,h3,h4,h5',k,hk,k3,k23⟩:=hm h
  rw[hy]
  have hk:y.1=(k:Int):=eq_of_beq hk
  show y.1≠3/\y.1≠23
  rw[hk]
  omega
 ·rw[e]at h;simp only[zz]at h;omega
 ·obtain⟨h1,h2,h3,h4,-⟩:=hm h
  rw[h1,e]
  refine⟨h2,?_,?_⟩<;>simp only[zz]<;>omega
theorem fN_c{m:Nat}(h:(s.f.kd i == O 26)=true)(hy:x.y.1=s.f.ln i)(hm:x.ok=true->x.r.kd=O m/\rk (O m)<5/\m≠24/\m≠26/\s.f.i i<(c.nU:Int)/\(m=12\/(s.f.ln i == O 3)=false))(hw:wd x.r.u/\wd x.r.v/\wd x.r.w/\wd x.r.x/\x.r.qc<=9223372036854775807):ΦN c s i x:=by
 have e:=eq_of_beq h
 refine⟨fun h=>?_,fun _=>⟨hy,fun h=>?_⟩,fun h=>?_,hw⟩
 ·rw[e]at h;simp only[zz]at h;omega
 ·obtain⟨h1,h2,h3,h4,h5,h6⟩:=hm h
  refine⟨h5,fun h3=>?_⟩
  rcases h6 with rfl|h6
  ·exact h1
  ·rw[h3]at h6;simp at h6
 ·obtain⟨h1,h2,h3,h4,-⟩:=hm h
  rw[h1,e]
  refine⟨h2,?_,?_⟩<;>simp only[zz]<;>omega
theorem nu_r(h:decide (s.f.i i >= (c.nU:Int))=false):s.f.i i<(c.nU:Int):=by
 have h:=of_decide_eq_false h
 omega
theorem no_t{q:Prop}:false=true->q:=fun h=>by cases h
end
theorem qq4c{p:Prop}(h:p:=by first|exact qc0|exact q4_c ‹_›):p:=h
theorem qw4c{p:Prop}(h:p:=by exact⟨z_w,z_w,z_w,z_w,by exact qq4c⟩):p:=h
theorem vhEnt{c:Cf}{p:Ep}{s:Es}{i:Nat}(h:preN c p s i):zad (vEnt c p s i (ΦN c s i)):=by
 obtain⟨ha,hfc,hC,hr,hc⟩:=h
 obtain⟨hi,hY,hs⟩:=id ha
 have hD:=okD hY
 have hb:(900000:Nat)<=900000:=Z _
 refine zad.pr (vEnt_eq ..) ?_
 (with_reducible repeat' first|exact zk|refine zn ?_|refine zm ?_|refine zl ?_ ?_|refine zi ?_|refine nN_h rfl ?_|refine z9 ?_ ?_|intro _)
 all_goals first
  | exact qlfc
  | exact lv_3
  | exact lj_e
  | exact ex_q4
  | exact irf_k ‹_› (by decide)
  | exact irf_n ‹_›
  | exact irf_l ‹_› (by decide)
  | exact irf_m ‹_›
  | exact irf_t ‹_› ‹_›
  | exact kd_x ‹_› (by decide)
  | exact if_2
  | exact ex_o
  | exact ha
  | exact preO_of ha hfc hC hr ‹_›
  | exact cli_r (hc (eq_of_beq ‹_›)) ‹_›
  | exact zbk (cli_r (hc (eq_of_beq ‹_›)) ‹_›)
  | exact fN_g ‹_› (by decide) no_t qw4c
  | exact fN_g ‹_› (by decide) (fun _=>⟨rfl,by decide,by decide,by decide⟩) qw4c
  | exact fN_f ‹_› ‹_› rfl qw4c
  | exact fN_r (m:=0) ‹_› ‹_› rfl (fun _=>by assumption) no_t qw4c
  | exact fN_r ‹_› ‹_› rfl (fun h=>by cases h) (fun _=>⟨rfl,by decide,by decide,by decide,by first|exact .inl rfl|exact .inr ‹_›,⟨_,by assumption,by decide,by decide⟩⟩) qw4c
  | exact fN_c (m:=0) ‹_› rfl no_t qw4c
  | exact fN_c ‹_› rfl (fun _=>⟨rfl,by decide,by decide,by decide,nu_r ‹_›,by first|exact .inl rfl|exact .inr ‹_›|exact .inr (kd_x ‹_› (by decide))⟩) qw4c
  | trace_state
noncomputable section
def argBk(i:Nat)(a v:Int):List SV:=argLf i++[iv a,iv v]
def Es.hB(s:Es)(c:Cf)(p:Ep):HL:=[(0,(s.rv c p).b 1 2 4 5 10),(4,wRow p.cap p.n s.m),(5,s.x.row 11 s.kc p.rc),(11,s.x.fam s.x.n s.kc),(8,s.f.row 12 p.fn p.fc),(12,s.f.fam p.fn),(10,evU s.ne s.nc)]
def kidN(s:St):Nat:=match kidK 5 s.H.h with
 | some (k,_)=>k
 | none=>0
def lstN(s:St):Nat:=match rdFk 8 s.H.h with
 | some (_,k)=>k
 | none=>0
def LBk(_:SV)(H:Hp):List Nat:=match kidK 5 H.h,rdFk 8 H.h with
 | some (k,_),some (_,k')=>[scK (zax 0 20 H.h),k,k']
 | _,_=>[]
def vBk(con:Con)(f:FuncId)(gs:List (Nat×G))(c:Cf)(p:Ep)(s:Es)(i:Nat)(a v:Int)(Φ:Eo->Prop):V:=verF P con 8 10 f ((0,.ren (renK 0))::(0,.ren kidN)::(0,.ren lstN)::gs) .nil (argBk i a v) ⟨s.h c p,10,fun _=>True⟩
 (finV (X:=Eo) 10 13 rdEo LBk Φ svEo (fun x=>x.s.hB c p))
def gBr:FuncId:=99
def gBc:FuncId:=101
def jK:G:=.join (fun _=>5) 5
def nK:G:=.nilEl (fun _=>5) 5 3 1 [.ci .i64 fun _ _=>0]
def vBr(c:Cf)(p:Ep)(s:Es)(i:Nat)(a v:Int)(Φ:Eo->Prop):V:=vBk conLf gBr [(9,jK),(13,jK),(14,nK),(14,jK),(42,.joinIf (fun _=>8) 17),(41,.join (fun _=>8) 17)] c p s i a v Φ
def vBc(c:Cf)(p:Ep)(s:Es)(i:Nat)(a v:Int)(Φ:Eo->Prop):V:=vBk conLf gBc [(12,nK),(12,jK)] c p s i a v Φ
end
abbrev g258(a0:Eo->Prop)(a1:Es)(a2:Fk)(a3:Nat)(k:V):V:=U (a0 (Eo.mk { a1 with f:={ a2 with ln:=aN a3 (O 1) a2.ln,ll:=aN a3 ((i64.wrap ((↑(a2.ll a3):Int)-O 1)).toNat) a2.ll,lc:=aN a3 (a2.lc a3) a2.lc }} false (O 0) (O 0))) (nN (g70 []) k)
abbrev g269(a0:Eo->Prop)(a1:Es)(a2:Fk)(a3:Nat)(k:V):V:=U (a0 (Eo.mk { a1 with f:={ a2 with ln:=aN a3 (O 1) a2.ln,ll:=aN a3 ((i64.wrap ((↑(a2.ll a3):Int)-O 1)).toNat) a2.ll,lc:=aN a3 (a2.lc a3) a2.lc }} true (O 0) (O 0))) (nN [qE true] k)
abbrev gs8(i:Nat)(p:Ep)(s:Es)(Φ:Eo->Prop)(c:Cf):V:=g66 i p (g53 i p s.f (g312 i p (zj ((↑(if 0=0/\i=i then(i64.wrap ((↑(s.f.ll i):Int)-O 1)).toNat else s.f.ll i):Int) == O 0) (g269 Φ s s.f i (nN [(2,.eqI 0 0)] (g61 c p s.m s s.x (g326 p s.f i (nN (g47 s []) zw))))) (g258 Φ s s.f i (g61 c p s.m s s.x (g326 p s.f i (nN (g47 s []) zw)))))))
abbrev g109(a0:Int)(a1:Rk)(k:V):V:=U (0+a0.toNat<a1.n) (U (True/\∀(i e:Nat),i=0/\e<a1.n->¬(i=0/\e=0+a0.toNat)->e≠0+a0.toNat) k)
abbrev g238(a0:Rk)(a1:Int)(k:Nat->V):V:=U (0+a0.kl (0+a1.toNat)+1<=9223372036854775807/\(0+a0.kl (0+a1.toNat)+1)*8<=140737488355328) (ze Nat (fun (x_2:Nat)=>0+a0.kl (0+a1.toNat)+1<=x_2) fun v0=>k v0)
abbrev g250(a0:Rk)(a1:Int)(k:Nat->V):V:=U (0+a0.kl (0+a1.toNat)<=9223372036854775807/\(0+a0.kl (0+a1.toNat))*8<=140737488355328) (ze Nat (fun (x_1:Nat)=>0+a0.kl (0+a1.toNat)<=x_1) fun v0=>k v0)
abbrev g342(a0:Ep)(a1 a2:Nat)(a3:Fk)(k:V):V:=nN [qF a0.fn (aN a1 a2 a3.lc)] (U (∀(i_1:Nat),((if i_1=a1 then a2 else a3.lc i_1)=if 0=0/\i_1=a1 then a2 else a3.lc i_1)\/(if 0=0/\i_1=a1 then a2 else a3.lc i_1)=0) k)
abbrev g348(a0:Nat)(a1:Ep)(k:V):V:=g135 a0 a1 (U (True/\∀(i_1 e:Nat),i_1=0/\e<a1.fn->¬(i_1=0/\e=a0)->e≠a0) k)
theorem vBr_eq(c:Cf)(p:Ep)(s:Es)(i:Nat)(a v:Int)(Φ:Eo->Prop):V.pr .z (vBr c p s i a v Φ)=
 nN [qE i] (g349 p (nN (g144 p s.f (g145 p s.f (g146 p s.f (g150 p s.f (g151 p s.f (g152 p s.f (g153 p s.f (g154 p s.f (g165 p s.f (g147 p s.f [])))))))))) (g346 p s.f i (g310 s.f i fun y0=>U (O 0<=y0/\y0<(↑s.x.n:Int)) (U (0+y0.toNat<s.x.n) (g11 i p (zj (s.f.ln i == O 5) (nN [(3,.lt2 0 1 0 1)] (U (O 0<=y0/\y0<(↑s.x.n:Int)) (g156 y0 s.x (g220 y0 s.x (g261 s.x y0 c (nN [(4,.lt2 0 1 0 1)] (g315 s.x y0 c (g156 y0 s.x (U (0<1/\0+y0.toNat<s.x.n) (g76 s.x y0 c (g48 s.x y0 c (g292 y0 s.x (zj (a == O 3) (g190 y0 s.x (U (0+s.x.kl (0+y0.toNat)<=upto s.x.n s.x.kl (0+y0.toNat)) (nN [(1,.eq 0 0)] (g250 s.x y0 fun y1=>nN [(1,.lt 0 1)] (U (0+s.x.kl (0+y0.toNat)<=0+s.x.kl (0+y0.toNat)/\y1=y1) (g238 s.x y0 fun y2=>g35 y0 s.x (g109 y0 s.x (g11 i p (nN ((1,.eqI 4 4)::qE (s.f.a i)::g129 y0 []) (g376 c p s.m s s.x i fun y3=>U (Φ (Eo.mk (Es.mk s.m s.now s.dr { s.x with pc:=aN (0+y0.toNat) (i64.wrap (s.x.pc (0+y0.toNat)+O 1)) s.x.pc,kl:=aN (0+y0.toNat) (0+s.x.kl (0+y0.toNat)+1) s.x.kl,kd:=fun (i j:Nat)=>if i=0+y0.toNat then if 0=0/\j=0+s.x.kl (0+y0.toNat) then Int.negSucc 0 else s.x.kd (0+y0.toNat) (0+j) else s.x.kd i j } (aN (0+y0.toNat) y2 s.kc) (s.ne+1) y3 { s.f with ln:=aN i (O 1) s.f.ln }) false (O 0) (O 0))) (nN (g70 (g34 c p s.m (g41 s s.x p (qE (s.ne+1)::qE y3::g97 p s.m (qL s.x.n::qF s.x.n s.x.p::qF s.x.n s.x.pa::qF s.x.n (aN (0+y0.toNat) (i64.wrap (s.x.pc (0+y0.toNat)+O 1)) s.x.pc)::qF s.x.n s.x.lf::g4 s.x [qF s.x.n (aN (0+y0.toNat) (0+s.x.kl (0+y0.toNat)+1) s.x.kl),qF s.x.n (aN (0+y0.toNat) y2 s.kc),qF s.x.n s.x.st]))))) (U (∀(i:Nat),((if i=0+y0.toNat then y2 else s.kc i)=if 0=0/\i=0+y0.toNat then y2 else s.kc i)\/(if 0=0/\i=0+y0.toNat then y2 else s.kc i)=0) (U (∀(i:Nat),(upto s.x.n (aN (0+y0.toNat) (0+s.x.kl (0+y0.toNat)+1) s.x.kl) i<=if 0=0/\i=0+y0.toNat then y2 else s.kc i)/\upto s.x.n (aN (0+y0.toNat) (0+s.x.kl (0+y0.toNat)+1) s.x.kl) i<=if i=0+y0.toNat then 0+s.x.kl (0+y0.toNat)+1 else upto s.x.n s.x.kl i) (U (∀(i e:Nat),e<upto s.x.n (aN (0+y0.toNat) (0+s.x.kl (0+y0.toNat)+1) s.x.kl) i->(if i=0+y0.toNat then if 0=0/\e=0+s.x.kl (0+y0.toNat) then Int.negSucc 0 else s.x.kd (0+y0.toNat) (0+e) else s.x.kd i e)=if i=0+y0.toNat then if 0=0/\e=0+s.x.kl (0+y0.toNat) then Int.negSucc 0 else s.x.kd (0+y0.toNat) (0+e) else s.x.kd i e) (nN (g57 p (g90 p s.f i (g63 p s.f []))) (g51 p s.f (g323 y3 s zw))))))))))))))))) (g190 y0 s.x (U (0+s.x.kl (0+y0.toNat)<=upto s.x.n s.x.kl (0+y0.toNat)) (nN [(1,.eq 0 0)] (g250 s.x y0 fun y1=>nN [(1,.lt 0 1)] (U (0+s.x.kl (0+y0.toNat)<=0+s.x.kl (0+y0.toNat)/\y1=y1) (g238 s.x y0 fun y2=>g35 y0 s.x (g109 y0 s.x (nN [(5,.lt2 0 1 0 1)] (U (O 0<=v/\v<(↑s.x.n:Int)) (U (0<1/\0+v.toNat<s.x.n) (g292 v s.x (g109 v s.x (nN [(2,.lt2 0 1 0 1)] (g135 i p (g135 i p (g135 i p (U (Φ (Eo.mk { s with x:=Rk.mk s.x.n (aN (0+v.toNat) (c.iA (0+(s.x.p (0+y0.toNat)).toNat) (0+(s.x.pc (0+y0.toNat)).toNat)) s.x.p) (aN (0+v.toNat) y0 s.x.pa) (aN (0+v.toNat) (O 0) (aN (0+y0.toNat) (i64.wrap (s.x.pc (0+y0.toNat)+O 1)) s.x.pc)) (aN (0+v.toNat) (O 0) s.x.lf) (aN (0+v.toNat) (Int.negSucc 0) s.x.wt) (aN (0+v.toNat) 0 (aN (0+y0.toNat) (0+s.x.kl (0+y0.toNat)+1) s.x.kl)) (fun (i j:Nat)=>if i=0+v.toNat then O 0 else if i=0+y0.toNat then if 0=0/\j=0+s.x.kl (0+y0.toNat) then v else s.x.kd (0+y0.toNat) (0+j) else s.x.kd i j) (aN (0+v.toNat) false s.x.st),kc:=aN (0+v.toNat) 0 (aN (0+y0.toNat) y2 s.kc),f:={ s.f with ln:=aN i (O 6) s.f.ln,d:=aN i (c.iB (0+(s.x.p (0+y0.toNat)).toNat) (0+(s.x.pc (0+y0.toNat)).toNat)) s.f.d,n:=aN i v s.f.n }} false (O 0) (O 0))) (nN (g70 (g54 c p s.m s s.x [qL s.x.n,qF s.x.n (aN (0+v.toNat) (c.iA (0+(s.x.p (0+y0.toNat)).toNat) (0+(s.x.pc (0+y0.toNat)).toNat)) s.x.p),qF s.x.n (aN (0+v.toNat) y0 s.x.pa),qF s.x.n (aN (0+v.toNat) (O 0) (aN (0+y0.toNat) (i64.wrap (s.x.pc (0+y0.toNat)+O 1)) s.x.pc)),qF s.x.n (aN (0+v.toNat) (O 0) s.x.lf),qF s.x.n (aN (0+v.toNat) (Int.negSucc 0) s.x.wt),qF s.x.n (fun (e:Nat)=>e),qF s.x.n (aN (0+v.toNat) 0 (aN (0+y0.toNat) (0+s.x.kl (0+y0.toNat)+1) s.x.kl)),qF s.x.n (aN (0+v.toNat) 0 (aN (0+y0.toNat) y2 s.kc)),qF s.x.n (aN (0+v.toNat) false s.x.st)])) (U (∀(i:Nat),((if i=0+v.toNat then 0 else if i=0+y0.toNat then y2 else s.kc i)=if 0=0/\i=0+v.toNat then 0 else if 0=0/\i=0+y0.toNat then y2 else s.kc i)\/(if 0=0/\i=0+v.toNat then 0 else if 0=0/\i=0+y0.toNat then y2 else s.kc i)=0) (U (∀(i:Nat),(upto s.x.n (aN (0+v.toNat) 0 (aN (0+y0.toNat) (0+s.x.kl (0+y0.toNat)+1) s.x.kl)) i<=if 0=0/\i=0+v.toNat then 0 else if 0=0/\i=0+y0.toNat then y2 else s.kc i)/\upto s.x.n (aN (0+v.toNat) 0 (aN (0+y0.toNat) (0+s.x.kl (0+y0.toNat)+1) s.x.kl)) i<=if i=0+v.toNat then 0 else if i=0+y0.toNat then 0+s.x.kl (0+y0.toNat)+1 else upto s.x.n s.x.kl i) (U (∀(i e:Nat),e<upto s.x.n (aN (0+v.toNat) 0 (aN (0+y0.toNat) (0+s.x.kl (0+y0.toNat)+1) s.x.kl)) i->(if i=0+v.toNat then O 0 else if i=0+y0.toNat then if 0=0/\e=0+s.x.kl (0+y0.toNat) then v else s.x.kd (0+y0.toNat) (0+e) else s.x.kd i e)=if i=0+v.toNat then O 0 else if i=0+y0.toNat then if 0=0/\e=0+s.x.kl (0+y0.toNat) then v else s.x.kd (0+y0.toNat) (0+e) else s.x.kd i e) (nN (g358 p s.f (qF p.fn (aN i (O 6) s.f.ln)::g38 p s.f (g32 p s.f (qF p.fn (aN i (c.iB (0+(s.x.p (0+y0.toNat)).toNat) (0+(s.x.pc (0+y0.toNat)).toNat)) s.f.d)::qF p.fn s.f.i::qF p.fn s.f.j::qF p.fn (aN i v s.f.n)::g299 p s.f (g13 p s.f []))))) (g50 p s.f (nN (g47 s []) zw))))))))))))))))))))))))))))))))))))) (zj (s.f.ln i == O 6) (g333 i p (nN [(1,.eqI 3 3),qE (s.f.a i),qE (s.f.n i),qE y0,qE (s.f.d i)] (g376 c p s.m s s.x i fun y1=>lfE Φ c p (Eo.mk (Es.mk s.m s.now s.dr s.x s.kc (s.ne+1) y1 { s.f with ln:=aN i (O 7) s.f.ln }) false (O 0) (O 0))))) (zj (s.f.ln i == O 7) (g11 i p (zj (a == O 3) (U (i<p.fn) (U (i<p.fn) (U (i<p.fn) (lfE Φ c p (Eo.mk { s with f:={ s.f with ln:=aN i (O 9) (aN i (O 8) s.f.ln) }} false (O 0) (O 0)))))) (lfE Φ c p (Eo.mk { s with f:={ s.f with ln:=aN i (O 8) s.f.ln }} false (O 0) (O 0))))) (zj (s.f.ln i == O 8) (U (i<p.fn) (U (i<p.fn) (U (i<p.fn) (lfE Φ c p (Eo.mk { s with f:={ s.f with ln:=aN i (O 1) s.f.ln }} false (O 0) (O 0)))))) (zj (s.f.ln i == O 9) (g11 i p (zj (a == O 1) (g17 i p (U (0+s.f.ll i<=upto p.fn s.f.ll i) (nN [(1,.eq 0 0)] (U (0+s.f.ll i<=9223372036854775807/\(0+s.f.ll i)*8<=140737488355328) (ze Nat (fun (x:Nat)=>0+s.f.ll i<=x) fun y1=>g17 i p (nN [(1,.lt2 0 1 0 1)] (U (0+s.f.ll i<=0+s.f.ll i/\y1=y1) (U (0+s.f.ll i+1<=9223372036854775807/\(0+s.f.ll i+1)*8<=140737488355328) (ze Nat (fun (x:Nat)=>0+s.f.ll i+1<=x) fun y2=>g348 i p (U (Φ (Eo.mk { s with f:={ s.f with ln:=aN i (O 1) s.f.ln,ll:=aN i (0+s.f.ll i+1) s.f.ll,lc:=aN i y2 s.f.lc,ld:=fun (i_1 e:Nat)=>if i_1=i then if 0=0/\e=0+s.f.ll i then s.f.n i else s.f.ld i (0+e) else s.f.ld i_1 e }} false (O 0) (O 0))) (nN (g70 []) (g61 c p s.m s s.x (nN (g304 p s.f i [qF p.fn (fun (e:Nat)=>e),qF p.fn (aN i (0+s.f.ll i+1) s.f.ll)]) (g342 p i y2 s.f (U (∀(i_1:Nat),(upto p.fn (aN i (0+s.f.ll i+1) s.f.ll) i_1<=if 0=0/\i_1=i then y2 else s.f.lc i_1)/\upto p.fn (aN i (0+s.f.ll i+1) s.f.ll) i_1<=if i_1=i then 0+s.f.ll i+1 else upto p.fn s.f.ll i_1) (U (∀(i_1 e:Nat),e<upto p.fn (aN i (0+s.f.ll i+1) s.f.ll) i_1->(if i_1=i then if 0=0/\e=0+s.f.ll i then s.f.n i else s.f.ld i (0+e) else s.f.ld i_1 e)=if i_1=i then if 0=0/\e=0+s.f.ll i then s.f.n i else s.f.ld i (0+e) else s.f.ld i_1 e) (nN (g47 s []) zw))))))))))))))))) (lfE Φ c p (Eo.mk { s with f:={ s.f with ln:=aN i (O 1) s.f.ln }} false (O 0) (O 0))))) (zj (s.f.ln i == O 14) (g79 i p (nN [(1,.eqI 7 7),qE (s.f.a i),qE y0,(1,.eqI 0 0),qE (s.f.t i)] (g223 c p s.m s s.x fun y1=>g66 i p (g53 i p s.f (g312 i p (zj ((↑(if 0=0/\i=i then(i64.wrap ((↑(s.f.ll i):Int)-O 1)).toNat else s.f.ll i):Int) == O 0) (g366 Φ s.m s s.x y1 s.f i (nN ((2,.eqI 0 0)::g34 c p s.m (g41 s s.x p (qE (s.ne+1)::qE y1::g97 p s.m []))) (g45 s.x s (nN (g57 p []) (g326 p s.f i (g323 y1 s zw)))))) (g347 Φ s.m s s.x y1 s.f i (nN (g34 c p s.m (g41 s s.x p (qE (s.ne+1)::qE y1::g97 p s.m []))) (g45 s.x s (nN (g57 p []) (g326 p s.f i (g323 y1 s zw)))))))))))) (zj (s.f.ln i == O 20) (g93 i p (zj (a == O 3) (U (i<p.fn) (U (i<p.fn) (U (i<p.fn) (lfE Φ c p (Eo.mk { s with f:={ s.f with ln:=aN i (O 22) (aN i (O 21) s.f.ln),t:=aN i v s.f.t }} false (O 0) (O 0)))))) (lfE Φ c p (Eo.mk { s with f:={ s.f with ln:=aN i (O 21) s.f.ln,t:=aN i v s.f.t }} false (O 0) (O 0))))) (zj (s.f.ln i == O 21) (gs8 i p s Φ c) (zj (s.f.ln i == O 22) (zj (a != O 1) (gs8 i p s Φ c) (g66 i p (g53 i p s.f (U (0+(i64.wrap ((↑(s.f.ll i):Int)-O 1)).toNat<=upto p.fn s.f.ll i) (nN [(1,.eq 0 0)] (U (0+(i64.wrap ((↑(s.f.ll i):Int)-O 1)).toNat<=9223372036854775807/\(0+(i64.wrap ((↑(s.f.ll i):Int)-O 1)).toNat)*8<=140737488355328) (ze Nat (fun (x:Nat)=>0+(i64.wrap ((↑(s.f.ll i):Int)-O 1)).toNat<=x) fun y1=>g17 i p (nN [(1,.lt2 0 1 0 1)] (U (0+(i64.wrap ((↑(s.f.ll i):Int)-O 1)).toNat<=0+(i64.wrap ((↑(s.f.ll i):Int)-O 1)).toNat/\y1=y1) (U (0+(i64.wrap ((↑(s.f.ll i):Int)-O 1)).toNat+1<=9223372036854775807/\(0+(i64.wrap ((↑(s.f.ll i):Int)-O 1)).toNat+1)*8<=140737488355328) (ze Nat (fun (x:Nat)=>0+(i64.wrap ((↑(s.f.ll i):Int)-O 1)).toNat+1<=x) fun y2=>g348 i p (g11 i p (U (Φ (Eo.mk { s with f:={ s.f with ln:=aN i (O 1) s.f.ln,ll:=aN i (0+(i64.wrap ((↑(s.f.ll i):Int)-O 1)).toNat+1) s.f.ll,lc:=aN i y2 s.f.lc,ld:=fun (i_1 e:Nat)=>if i_1=i then if 0=0/\e=0+(i64.wrap ((↑(s.f.ll i):Int)-O 1)).toNat then s.f.n i else s.f.ld i (0+e) else s.f.ld i_1 e }} false (O 0) (O 0))) (nN (g70 []) (g61 c p s.m s s.x (nN (g304 p s.f i [qF p.fn (fun (e:Nat)=>e),qF p.fn (aN i (0+(i64.wrap ((↑(s.f.ll i):Int)-O 1)).toNat+1) s.f.ll)]) (g342 p i y2 s.f (U (∀(i_1:Nat),(upto p.fn (aN i (0+(i64.wrap ((↑(s.f.ll i):Int)-O 1)).toNat+1) s.f.ll) i_1<=if 0=0/\i_1=i then y2 else s.f.lc i_1)/\upto p.fn (aN i (0+(i64.wrap ((↑(s.f.ll i):Int)-O 1)).toNat+1) s.f.ll) i_1<=if i_1=i then 0+(i64.wrap ((↑(s.f.ll i):Int)-O 1)).toNat+1 else upto p.fn s.f.ll i_1) (U (∀(i_1 e:Nat),e<upto p.fn (aN i (0+(i64.wrap ((↑(s.f.ll i):Int)-O 1)).toNat+1) s.f.ll) i_1->(if i_1=i then if 0=0/\e=0+(i64.wrap ((↑(s.f.ll i):Int)-O 1)).toNat then s.f.n i else s.f.ld i (0+e) else s.f.ld i_1 e)=if i_1=i then if 0=0/\e=0+(i64.wrap ((↑(s.f.ll i):Int)-O 1)).toNat then s.f.n i else s.f.ld i (0+e) else s.f.ld i_1 e) (nN (g47 s []) zw)))))))))))))))))))) (lfE Φ c p (Eo.mk s false (O 0) (O 0)))))))))))))))))):=by kernel_rfl
end Go.Proofs.YtabiechfpefjhaaGreat.En
