import Derived.Test.YtabiechfpefjhaaGreatMEgC
set_option maxHeartbeats 64000000
set_option linter.unusedVariables false
set_option linter.unusedSimpArgs false
set_option maxRecDepth 100000
open Go.IntKind (i64 u64)
open Int renaming ofNat -> O, ofNat_eq_natCast -> zz, natCast_nonneg -> zp
open Nat renaming le_refl -> Z, zero_le -> zh, zero_add -> z8, le_trans -> zo
open Bool renaming and_eq_true -> zx, not_eq_true' -> z7, not_eq_false' -> za, or_eq_true -> zf, not_eq_true -> zg, and_eq_false_iff -> zd
open Go.Proofs.YtabiechfpefjhaaGreat.Sx.V renaming need -> U, br -> zj, ok -> zw, any -> ze, needI -> z9, okI -> zk, brT -> zn, brF -> zm, brI -> zl, anyI -> zi
namespace Go.Proofs.YtabiechfpefjhaaGreat.En
open Go Go.RowKit Sx Cn Dc Ck Vc Md
abbrev g214(a0:Nat)(l:LP):LP:=(1,.eq 4 4)::qE a0::l
abbrev g321(a0:Ee)(a1:Mp)(a2:Fk)(a3:Mp)(a4:Fk)(a5:Mp)(a6:Fk)(a7:Mp)(a8:Fk)(k:V):V:=g170 a0 a1 a2 a3 a4 (g96 a5 a6 a7 a8 k)
theorem vDo4_eq(c:Cf)(p:Ep)(cm:Nat)(e:Ee)(x:M5)(a v:Int)(I1:Xd->Prop)(I2:Nat->Nat×Nat->Prop)(Φ:Xe->Prop):V.pr (.b (.b (.b (.t .z) (.b (.f (.t .z)) (.b (.f (.f (.t .z))) (.f (.f (.f .z)))))) .z) .z) (vDo c p cm e x 4 a v I1 I2 Φ)=
 g149 c p e.m e e.x (nN (g95 e (g214 cm [])) (g321 e x.a0.m x.a0.f x.a1.m x.a1.f x.a2.m x.a2.f x.a3.m x.a3.f (ze Bool (fun (x:Bool)=>True) fun y0=>zj y0 (nN [(2,.lt2 0 1 0 1)] (zj (a == O 0) (nN [(8,.lt2 0 1 0 1),qE v,qE ((↑4:Int))] (U (O 1<=(↑4:Int)/\(↑4:Int)<=O 9223372036854775807) (nA (fun (r:Int)=>O 0<=r/\r<(↑4:Int)) fun y1=>zj (y1 == O 0) (U (O 0<=O 0/\O 0<(↑4:Int)) (nN ((2,.lt2 0 1 0 4)::(1,.lt 0 4)::g202 []) (g149 c p e.m e e.x (g324 x.a0.m x.a0.f e (nN (g71 c []) (g130 c p x.a0.m e x.a0.f I1 x fun y2=>g289 c p y2.s.m y2.s y2.s.x (nN (g214 cm []) (g321 e y2.m y2.s.f x.a1.m x.a1.f x.a2.m x.a2.f x.a3.m x.a3.f zw)))))))) (zj (y1 == O 1) (U (O 0<=O 1/\O 1<(↑4:Int)) (nN ((2,.lt2 0 1 1 4)::(1,.lt 1 4)::qE false::g202 []) (g149 c p e.m e e.x (g324 x.a1.m x.a1.f e (nN (g71 c []) (g131 c p x.a1.m e x.a1.f I1 x fun y2=>g289 c p y2.s.m y2.s y2.s.x (nN (g214 cm []) (g321 e x.a0.m x.a0.f y2.m y2.s.f x.a2.m x.a2.f x.a3.m x.a3.f zw)))))))) (zj (y1 == O 2) (U (O 0<=O 2/\O 2<(↑4:Int)) (nN ((2,.lt2 0 1 2 4)::(1,.lt 2 4)::g331 (g202 [])) (g149 c p e.m e e.x (g324 x.a2.m x.a2.f e (nN (g71 c []) (g224 c p x.a2.m e x.a2.f I1 x fun y2=>g289 c p y2.s.m y2.s y2.s.x (nN (g214 cm []) (g321 e x.a0.m x.a0.f x.a1.m x.a1.f y2.m y2.s.f x.a3.m x.a3.f zw)))))))) (U (O 0<=O 3/\O 3<(↑4:Int)) (nN ((2,.lt2 0 1 3 4)::(1,.lt 3 4)::g331 [qE false,(3,.lt2 0 1 0 1)]) (g149 c p e.m e e.x (g324 x.a3.m x.a3.f e (nN (g71 c []) (g44 c p x.a3.m e x.a3.f fun y2=>U (I1 (Xd.mk { y2.s with en:=e.en,ns:=e.ns,cs:=e.cs,l0:=e.l0,l1:=e.l1,l2:=e.l2,l3:=e.l3 } { x with a3:=Ma.mk y2.s.f y2.m })) (g289 c p y2.s.m y2.s y2.s.x (nN (g214 cm []) (g321 e x.a0.m x.a0.f x.a1.m x.a1.f x.a2.m x.a2.f y2.m y2.s.f zw)))))))))))))) (zj (a == O 1) (g234 I1 e x c p e.m (nN (g272 e (g117 e.x p e (g97 p e.m []))) (g115 e.x e (nN (g95 e (g214 cm [])) (g321 e x.a0.m x.a0.f x.a1.m x.a1.f x.a2.m x.a2.f x.a3.m x.a3.f zw))))) (zj (a == O 2) (g340 I1 e v x (nN (g34 c p e.m (qE e.now::qE v::g117 e.x p e (g97 p e.m []))) (g115 e.x e (nN (g95 e (g214 cm [])) (g321 e x.a0.m x.a0.f x.a1.m x.a1.f x.a2.m x.a2.f x.a3.m x.a3.f zw))))) (U (I1 (Xd.mk e x)) (g149 c p e.m e e.x (nN (g95 e (g214 cm [])) (g321 e x.a0.m x.a0.f x.a1.m x.a1.f x.a2.m x.a2.f x.a3.m x.a3.f zw)))))))) (ze Xd I1 fun y1=>zj (decide (y1.e.m.ct>e.m.ct)) (U (I2 y1.e.ne (y1.e.ns,y1.e.cs)) (nN (g214 cm (g100 y1.e (g6 y1.e.m []))) (g374 y1.e I2 fun y2=>zj (decide ((↑y2.fst:Int)<(↑y1.e.ne:Int))) (g379 y2 I2 y1.e fun y3=>nN (g214 cm (g371 y1.e y2 (qE y3::g6 y1.e.m []))) (g200 y3 y2 zw)) (U (Φ (Xe.mk { y1.e with en:=i64.wrap (y1.e.en+O 1),ns:=y2.fst,cs:=y2.snd,l0:=y1.e.m.lk,l1:=y1.e.m.lc,l2:=y1.e.m.lo,l3:=y1.e.m.ln } { y1.x with a4:=x.a4 })) (g210 c p y1.e.m y1.e y1.e.x (nN (g214 cm (g155 y1.e y2 (qE y2.snd::g6 y1.e.m (g372 y2 [])))) (g96 y1.x.a0.m y1.x.a0.f y1.x.a1.m y1.x.a1.f (g96 y1.x.a2.m y1.x.a2.f y1.x.a3.m y1.x.a3.f zw)))))))) (U (I2 y1.e.ne (y1.e.ns,y1.e.cs)) (nN (g214 cm (g100 y1.e [])) (g374 y1.e I2 fun y2=>zj (decide ((↑y2.fst:Int)<(↑y1.e.ne:Int))) (g379 y2 I2 y1.e fun y3=>nN (g214 cm (g371 y1.e y2 [qE y3])) (g200 y3 y2 zw)) (U (Φ (Xe.mk { y1.e with en:=i64.wrap (y1.e.en+O 1),ns:=y2.fst,cs:=y2.snd,l0:=O 0,l1:=O 0,l2:=O 0,l3:=O 0 } { y1.x with a4:=x.a4 })) (g210 c p y1.e.m y1.e y1.e.x (nN (g214 cm (g155 y1.e y2 (qE y2.snd::(4,.eqI 0 0)::g372 y2 []))) (g96 y1.x.a0.m y1.x.a0.f y1.x.a1.m y1.x.a1.f (g96 y1.x.a2.m y1.x.a2.f y1.x.a3.m y1.x.a3.f zw)))))))))))):=by kernel_rfl
abbrev g207(a0:Nat)(l:LP):LP:=(1,.eq 5 5)::qE a0::l
theorem vDo5_eq(c:Cf)(p:Ep)(cm:Nat)(e:Ee)(x:M5)(a v:Int)(I1:Xd->Prop)(I2:Nat->Nat×Nat->Prop)(Φ:Xe->Prop):V.pr (.b (.b (.b (.t .z) (.b (.f (.t .z)) (.b (.f (.f (.t .z))) (.b (.f (.f (.f (.t .z)))) (.f (.f (.f (.f .z)))))))) .z) .z) (vDo c p cm e x 5 a v I1 I2 Φ)=
 g149 c p e.m e e.x (nN (g95 e (g207 cm [])) (g321 e x.a0.m x.a0.f x.a1.m x.a1.f x.a2.m x.a2.f x.a3.m x.a3.f (g29 x.a4.m x.a4.f (ze Bool (fun (x:Bool)=>True) fun y0=>zj y0 (nN [(2,.lt2 0 1 0 1)] (zj (a == O 0) (nN [(8,.lt2 0 1 0 1),qE v,qE ((↑5:Int))] (U (O 1<=(↑5:Int)/\(↑5:Int)<=O 9223372036854775807) (nA (fun (r:Int)=>O 0<=r/\r<(↑5:Int)) fun y1=>zj (y1 == O 0) (U (O 0<=O 0/\O 0<(↑5:Int)) (nN ((2,.lt2 0 1 0 5)::(1,.lt 0 5)::g202 []) (g149 c p e.m e e.x (g324 x.a0.m x.a0.f e (nN (g71 c []) (g130 c p x.a0.m e x.a0.f I1 x fun y2=>g289 c p y2.s.m y2.s y2.s.x (nN (g207 cm []) (g321 e y2.m y2.s.f x.a1.m x.a1.f x.a2.m x.a2.f x.a3.m x.a3.f (g29 x.a4.m x.a4.f zw))))))))) (zj (y1 == O 1) (U (O 0<=O 1/\O 1<(↑5:Int)) (nN ((2,.lt2 0 1 1 5)::(1,.lt 1 5)::qE false::g202 []) (g149 c p e.m e e.x (g324 x.a1.m x.a1.f e (nN (g71 c []) (g131 c p x.a1.m e x.a1.f I1 x fun y2=>g289 c p y2.s.m y2.s y2.s.x (nN (g207 cm []) (g321 e x.a0.m x.a0.f y2.m y2.s.f x.a2.m x.a2.f x.a3.m x.a3.f (g29 x.a4.m x.a4.f zw))))))))) (zj (y1 == O 2) (U (O 0<=O 2/\O 2<(↑5:Int)) (nN ((2,.lt2 0 1 2 5)::(1,.lt 2 5)::g331 (g202 [])) (g149 c p e.m e e.x (g324 x.a2.m x.a2.f e (nN (g71 c []) (g224 c p x.a2.m e x.a2.f I1 x fun y2=>g289 c p y2.s.m y2.s y2.s.x (nN (g207 cm []) (g321 e x.a0.m x.a0.f x.a1.m x.a1.f y2.m y2.s.f x.a3.m x.a3.f (g29 x.a4.m x.a4.f zw))))))))) (zj (y1 == O 3) (U (O 0<=O 3/\O 3<(↑5:Int)) (nN ((2,.lt2 0 1 3 5)::(1,.lt 3 5)::g331 (qE false::g202 [])) (g149 c p e.m e e.x (g324 x.a3.m x.a3.f e (nN (g71 c []) (g44 c p x.a3.m e x.a3.f fun y2=>U (I1 (Xd.mk { y2.s with en:=e.en,ns:=e.ns,cs:=e.cs,l0:=e.l0,l1:=e.l1,l2:=e.l2,l3:=e.l3 } { x with a3:=Ma.mk y2.s.f y2.m })) (g289 c p y2.s.m y2.s y2.s.x (nN (g207 cm []) (g321 e x.a0.m x.a0.f x.a1.m x.a1.f x.a2.m x.a2.f y2.m y2.s.f (g29 x.a4.m x.a4.f zw)))))))))) (U (O 0<=O 4/\O 4<(↑5:Int)) (nN ((2,.lt2 0 1 4 5)::(1,.lt 4 5)::g331 (g331 [(3,.lt2 0 1 0 1)])) (g149 c p e.m e e.x (g324 x.a4.m x.a4.f e (nN (g71 c []) (g44 c p x.a4.m e x.a4.f fun y2=>U (I1 (Xd.mk { y2.s with en:=e.en,ns:=e.ns,cs:=e.cs,l0:=e.l0,l1:=e.l1,l2:=e.l2,l3:=e.l3 } { x with a4:=Ma.mk y2.s.f y2.m })) (g289 c p y2.s.m y2.s y2.s.x (nN (g207 cm []) (g321 e x.a0.m x.a0.f x.a1.m x.a1.f x.a2.m x.a2.f x.a3.m x.a3.f (g29 y2.m y2.s.f zw)))))))))))))))) (zj (a == O 1) (g234 I1 e x c p e.m (nN (g272 e (g117 e.x p e (g97 p e.m []))) (g115 e.x e (nN (g95 e (g207 cm [])) (g321 e x.a0.m x.a0.f x.a1.m x.a1.f x.a2.m x.a2.f x.a3.m x.a3.f (g29 x.a4.m x.a4.f zw)))))) (zj (a == O 2) (g340 I1 e v x (nN (g34 c p e.m (qE e.now::qE v::g117 e.x p e (g97 p e.m []))) (g115 e.x e (nN (g95 e (g207 cm [])) (g321 e x.a0.m x.a0.f x.a1.m x.a1.f x.a2.m x.a2.f x.a3.m x.a3.f (g29 x.a4.m x.a4.f zw)))))) (U (I1 (Xd.mk e x)) (g149 c p e.m e e.x (nN (g95 e (g207 cm [])) (g321 e x.a0.m x.a0.f x.a1.m x.a1.f x.a2.m x.a2.f x.a3.m x.a3.f (g29 x.a4.m x.a4.f zw))))))))) (ze Xd I1 fun y1=>zj (decide (y1.e.m.ct>e.m.ct)) (U (I2 y1.e.ne (y1.e.ns,y1.e.cs)) (nN (g207 cm (g100 y1.e (g6 y1.e.m []))) (g374 y1.e I2 fun y2=>zj (decide ((↑y2.fst:Int)<(↑y1.e.ne:Int))) (g379 y2 I2 y1.e fun y3=>nN (g207 cm (g371 y1.e y2 (qE y3::g6 y1.e.m []))) (g200 y3 y2 zw)) (U (Φ (Xe.mk (Ee.mk y1.e.m y1.e.now y1.e.dr y1.e.x y1.e.kc y1.e.ne y1.e.nc (i64.wrap (y1.e.en+O 1)) y2.fst y2.snd y1.e.m.lk y1.e.m.lc y1.e.m.lo y1.e.m.ln) y1.x)) (g210 c p y1.e.m y1.e y1.e.x (nN (g207 cm (g155 y1.e y2 (qE y2.snd::g6 y1.e.m (g372 y2 [])))) (g96 y1.x.a0.m y1.x.a0.f y1.x.a1.m y1.x.a1.f (g96 y1.x.a2.m y1.x.a2.f y1.x.a3.m y1.x.a3.f (g29 y1.x.a4.m y1.x.a4.f zw))))))))) (U (I2 y1.e.ne (y1.e.ns,y1.e.cs)) (nN (g207 cm (g100 y1.e [])) (g374 y1.e I2 fun y2=>zj (decide ((↑y2.fst:Int)<(↑y1.e.ne:Int))) (g379 y2 I2 y1.e fun y3=>nN (g207 cm (g371 y1.e y2 [qE y3])) (g200 y3 y2 zw)) (U (Φ (Xe.mk (Ee.mk y1.e.m y1.e.now y1.e.dr y1.e.x y1.e.kc y1.e.ne y1.e.nc (i64.wrap (y1.e.en+O 1)) y2.fst y2.snd (O 0) (O 0) (O 0) (O 0)) y1.x)) (g210 c p y1.e.m y1.e y1.e.x (nN (g207 cm (g155 y1.e y2 (qE y2.snd::(4,.eqI 0 0)::g372 y2 []))) (g96 y1.x.a0.m y1.x.a0.f y1.x.a1.m y1.x.a1.f (g96 y1.x.a2.m y1.x.a2.f y1.x.a3.m y1.x.a3.f (g29 y1.x.a4.m y1.x.a4.f zw)))))))))))))):=by kernel_rfl
section
variable {b:Nat} {c:Cf} {p:Ep} {cm:Nat} {e:Ee} {x:M5} {a v:Int} {Φ:Xe->Prop}
theorem D_st{k:Nat}(h:ΦD b c k e x):e.ns<=e.cs:=h.1.st
theorem D_ka{k:Nat}(h:ΦD b c k e x)(i:Nat):upto e.x.n e.x.kl i<=e.kc i/\upto e.x.n e.x.kl i<=upto e.x.n e.x.kl i:=h.1.ka i
theorem D_la{k:Nat}(h:ΦD b c k e x)(j:Nat)(hj:j<k)(i:Nat):upto (at5 x j).m.n (at5 x j).f.ll i<=(at5 x j).f.lc i/\upto (at5 x j).m.n (at5 x j).f.ll i<=upto (at5 x j).m.n (at5 x j).f.ll i:=(h.2 j hj).la i
theorem P_la{k:Nat}(h:preD b c k e x)(j:Nat)(hj:j<k)(i:Nat):upto (at5 x j).m.n (at5 x j).f.ll i<=(at5 x j).f.lc i/\upto (at5 x j).m.n (at5 x j).f.ll i<=upto (at5 x j).m.n (at5 x j).f.ll i:=(h.hM j hj).la i
theorem P_ts{k:Nat}(h:preD b c k e x)(j:Nat)(hj:j<k){q:Ep}:preTs c q (e.es (at5 x j).f) (at5 x j).m:=pre_ts h (h.hM j hj)
theorem P_1{k:Nat}(h:preD b c k e x)(j:Nat)(hj:j<k){q:Ep}{y:So}(hy:ΦTs c q (e.es (at5 x j).f) (at5 x j).m y)(i:Nat):upto y.s.x.n y.s.x.kl i<=y.s.kc i/\upto y.s.x.n y.s.x.kl i<=upto y.s.x.n y.s.x.kl i:=up_d (Z _) (stp_e h (h.hM j hj) hy).1 i
theorem P_2{k:Nat}(h:preD b c k e x)(j:Nat)(hj:j<k){q:Ep}{y:So}(hy:ΦTs c q (e.es (at5 x j).f) (at5 x j).m y)(i:Nat):upto y.m.n y.s.f.ll i<=y.s.f.lc i/\upto y.m.n y.s.f.ll i<=upto y.m.n y.s.f.ll i:=up_d (Z _) (stp_e h (h.hM j hj) hy).2 i
theorem vhDo:
  (preD b c 2 e x->(∀y,ΦD b c 2 y.e y.x->Φ y)->zad (vDo c p cm e x 2 a v (fun y=>ΦD b c 2 y.e y.x) (fun _ q=>q.1<=q.2) Φ))/\
  (preD b c 3 e x->(∀y,ΦD b c 3 y.e y.x->Φ y)->zad (vDo c p cm e x 3 a v (fun y=>ΦD b c 3 y.e y.x) (fun _ q=>q.1<=q.2) Φ))/\
  (preD b c 4 e x->(∀y,ΦD b c 4 y.e y.x->Φ y)->zad (vDo c p cm e x 4 a v (fun y=>ΦD b c 4 y.e y.x) (fun _ q=>q.1<=q.2) Φ))/\
  (preD b c 5 e x->(∀y,ΦD b c 5 y.e y.x->Φ y)->zad (vDo c p cm e x 5 a v (fun y=>ΦD b c 5 y.e y.x) (fun _ q=>q.1<=q.2) Φ)):=by
 refine⟨fun hp hΦ=>zad.pr (vDo2_eq ..) ?_,fun hp hΦ=>zad.pr (vDo3_eq ..) ?_,fun hp hΦ=>zad.pr (vDo4_eq ..) ?_,fun hp hΦ=>zad.pr (vDo5_eq ..) ?_⟩
 all_goals (with_reducible repeat' first|exact zk|refine zn ?_|refine zm ?_|refine zl ?_ ?_|refine zi ?_|refine nN_h rfl ?_|refine z9 ?_ ?_|intro _)
 all_goals first
  | rfl
  | exact .inl rfl
  | exact Z _
  | assumption
  | exact⟨Z _,rfl⟩
  | (constructor<;>decide)
  | exact⟨0,by decide⟩
  | exact exTs
  | exact okEe.ka hp.he _
  | exact P_la hp 0 (by decide) _
  | exact P_la hp 1 (by decide) _
  | exact P_la hp 2 (by decide) _
  | exact P_la hp 3 (by decide) _
  | exact P_la hp 4 (by decide) _
  | exact P_ts hp 0 (by decide)
  | exact P_ts hp 1 (by decide)
  | exact P_ts hp 2 (by decide)
  | exact P_ts hp 3 (by decide)
  | exact P_ts hp 4 (by decide)
  | exact D_tick hp
  | exact D_draw hp
  | exact ΦD.same hp
  | exact D_st ‹_›
  | exact D_mx hp.hb.2 ‹_› ‹_›
  | exact D_mu ‹_›
  | exact hΦ _ (D_end ‹_› ‹_› fun j hj=>by rcases(show j=0\/j=1\/j=2\/j=3\/j=4 by omega) with rfl|rfl|rfl|rfl|rfl<;>first|rfl|omega)
  | exact D_ka ‹_› _
  | exact D_la ‹_› 0 (by decide) _
  | exact D_la ‹_› 1 (by decide) _
  | exact D_la ‹_› 2 (by decide) _
  | exact D_la ‹_› 3 (by decide) _
  | exact D_la ‹_› 4 (by decide) _
  | exact D_step hp (by decide) (j:=0) (by decide) ‹_›
  | exact D_step hp (by decide) (j:=1) (by decide) ‹_›
  | exact D_step hp (by decide) (j:=2) (by decide) ‹_›
  | exact D_step hp (by decide) (j:=3) (by decide) ‹_›
  | exact D_step hp (by decide) (j:=4) (by decide) ‹_›
  | exact P_1 hp 0 (by decide) ‹_› _
  | exact P_1 hp 1 (by decide) ‹_› _
  | exact P_1 hp 2 (by decide) ‹_› _
  | exact P_1 hp 3 (by decide) ‹_› _
  | exact P_1 hp 4 (by decide) ‹_› _
  | exact P_2 hp 0 (by decide) ‹_› _
  | exact P_2 hp 1 (by decide) ‹_› _
  | exact P_2 hp 2 (by decide) ‹_› _
  | exact P_2 hp 3 (by decide) ‹_› _
  | exact P_2 hp 4 (by decide) ‹_› _
  | trace_state
end
def preDs(c:Cf)(k:Nat)(e:Ee)(x:M5):Prop:=∃b,preD b c k e x
def ΦDs(c:Cf)(k:Nat)(e:Ee)(x:M5)(y:Xe):Prop:=∀b,preD b c k e x->ΦD b c k y.e y.x
theorem ΦD.up{b b':Nat}{c:Cf}{k:Nat}{e:Ee}{x:M5}(h:ΦD b c k e x)(hb:b<=b'):ΦD b' c k e x:=⟨h.1.le (by omega),h.2.le (by omega)⟩
noncomputable def bD(c:Cf)(k:Nat)(e:Ee)(x:M5):Nat:=Classical.epsilon fun n=>preD n c k e x/\∀j,preD j c k e x->n<=j
theorem bD_h{c:Cf}{k:Nat}{e:Ee}{x:M5}(h:preDs c k e x):preD (bD c k e x) c k e x/\∀y:Xe,ΦD (bD c k e x) c k y.e y.x->ΦDs c k e x y:=by
 have hb:=Classical.epsilon_spec (ex_min h)
 exact⟨hb.1,fun y hy b' hb'=>hy.up (hb.2 b' hb')⟩
noncomputable section
def fk00:Fk:=⟨fun _=>0,fun _=>0,fun _=>0,fun _=>0,fun _=>0,fun _=>0,fun _=>0,fun _=>0,fun _=>0,fun _=>0,fun _=>0,fun _=>0,fun _=>0,fun _=>0,fun _=>0,fun _=>0,fun _=>0,fun _=>0,fun _=>0,fun _ _=>0⟩
def ma0:Ma:=⟨fk00,⟨0,0,true,0,0⟩⟩
def m50:M5:=⟨ma0,ma0,ma0,ma0,ma0⟩
def ptL:List SC->List Nat
 | .ptr k _ _ _ _::l=>k::ptL l
 | _=>[]
def rdMaN(km:Nat)(h:HL):Option (Ma×List Nat):=fN (scK (zax km 0 h)) fun kf=>match rdMpK km h,rdFk kf h with
 | some m,some (f,kl)=>some (⟨f,m⟩,[km,kf,kl])
 | _,_=>none
def rdM5N(h:HL):List Nat->Nat->Option (M5×List Nat)
 | [],_=>some (m50,[])
 | km::l,j=>match rdMaN km h,rdM5N h l (j+1) with
  | some (a,ks),some (x,σ)=>some (set5 x a j,ks++σ)
  | _,_=>none
def rdEeK(ke kx:Nat)(h:HL):Option (Ee×Nat):=match rdRv ke h,(find kx h).map ownC with
 | some (r,[_,_,_,_,k5,_]),some [_,some mm,some en,some st,some l0,some l1,some l2,some l3]=>match rdRk k5 r.rn h,numC en,szC st,numC l0,numC l1,numC l2,numC l3,szC mm with
  | some (x,_,kc),some en,some (ns,cs),some l0,some l1,some l2,some l3,some (_,cm)=>some (⟨r.m,r.now,r.dr,x,kc,r.ne,r.nc,en,ns,cs,l0,l1,l2,l3⟩,cm)
  | _,_,_,_,_,_,_,_=>none
 | _,_=>none
structure En0 where
 c:Cf
 p:Ep
 e:Ee
 x:M5
 cm:Nat
 k:Nat
 σ:List Nat
def rdEn(kx:Nat)(h:HL):Option En0:=fN (scK (zax kx 0 h)) fun ke=>fN (scK (zax kx 1 h)) fun km=>fN (scK (zax kx 3 h)) fun ks=>match (find km h).map zfe,rdEeK ke kx h with
 | some [.ck l],some (e,cm)=>match rdM5N h (ptL l) 0 with
  | some (x,m0::kf::σ)=>match rdEp ke kf h with
   | some (c,p,_,[a0,a1,a2,a3,a4,a5,a6,a7,_,_])=>some ⟨c,⟨p.n,p.cap,p.rc,0,0⟩,e,x,cm,l.length,a0::a1::a2::a3::a4::a5::a6::a7::kx::km::ks::m0::kf::σ⟩
   | _=>none
  | _=>none
 | _,_=>none
def postD(c:Cf)(p:Ep)(cm:Nat)(e:Ee)(x:M5)(k:Nat):Out (SV×Hp):=.need (preDs c k e x) (.any Xe (ΦDs c k e x) fun y=>.leaf (.t [],⟨y.e.hD c p cm y.x k (11+3*k) (12+3*k) (13+3*k) (fk1 (14+3*k)),14+5*k,fun _=>True⟩))
def hDo(c:Cf)(p:Ep)(cm:Nat)(e:Ee)(x:M5)(k:Nat):HL:=e.hD c p cm x k 7 6 10 fk0++(9,mV k)::hCk c
def cDo:List SV->Hp->Out (SV×Hp):=fun args H=>match args with
 | [.c (.ptr kx _ _ _ _),.a [a,v]]=>fN kx fun kx=>match rdEn kx H.h,numC a,numC v with
  | some ⟨c,p,e,x,cm,k,σ⟩,some a,some v=>match k with
   | 2=>useP σ 17 (argDo a v) (hDo c p cm e x 2) (postD c p cm e x 2) args H
   | 3=>useP σ 20 (argDo a v) (hDo c p cm e x 3) (postD c p cm e x 3) args H
   | 4=>useP σ 23 (argDo a v) (hDo c p cm e x 4) (postD c p cm e x 4) args H
   | 5=>useP σ 26 (argDo a v) (hDo c p cm e x 5) (postD c p cm e x 5) args H
   | _=>.bad 490
  | _,_,_=>.bad 491
 | _=>.bad 492
theorem lDo2{c:Cf}{p:Ep}{cm:Nat}{e:Ee}{x:M5}{a v:Int}:zah P fDo (argDo a v) (hDo c p cm e x 2) 17 (postD c p cm e x 2):=zae zgp fun h=>vhDo.1 (bD_h h).1 (bD_h h).2
theorem lDo3{c:Cf}{p:Ep}{cm:Nat}{e:Ee}{x:M5}{a v:Int}:zah P fDo (argDo a v) (hDo c p cm e x 3) 20 (postD c p cm e x 3):=zae zgp fun h=>vhDo.2.1 (bD_h h).1 (bD_h h).2
theorem lDo4{c:Cf}{p:Ep}{cm:Nat}{e:Ee}{x:M5}{a v:Int}:zah P fDo (argDo a v) (hDo c p cm e x 4) 23 (postD c p cm e x 4):=zae zgp fun h=>vhDo.2.2.1 (bD_h h).1 (bD_h h).2
theorem lDo5{c:Cf}{p:Ep}{cm:Nat}{e:Ee}{x:M5}{a v:Int}:zah P fDo (argDo a v) (hDo c p cm e x 5) 26 (postD c p cm e x 5):=zae zgp fun h=>vhDo.2.2.2 (bD_h h).1 (bD_h h).2
theorem cDo_ok:zab P fDo cDo:=zac fun args H=>by
 unfold cDo
 simp only[fN_eq]
 repeat' split
 all_goals first
  | exact .inl ⟨_,rfl⟩
  | with_reducible exact .inr ⟨_,_,_,_,_,rfl,lDo2⟩
  | with_reducible exact .inr ⟨_,_,_,_,_,rfl,lDo3⟩
  | with_reducible exact .inr ⟨_,_,_,_,_,rfl,lDo4⟩
  | with_reducible exact .inr ⟨_,_,_,_,_,rfl,lDo5⟩
def fRn:FuncId:=16
def conRn:Con:=Con.add fDo cDo con0
theorem zgh:zaj P conRn:=.add cDo_ok zaj.nil
structure Xr where
 e:Ee
 x:M5
 i:Int
def rdXr(d:M5)(k:Nat)(s:St):Option Xr:=match rdEe s.H.h,rdM5 d s.H.h k 0,tmI 4 s with
 | some e,some x,some i=>some ⟨e,x,i⟩
 | _,_,_=>none
def laRn(c:Cf)(p:Ep)(cm:Nat)(d:M5)(k n:Nat)(I:Xr->Prop)(s:St):Option (LA Xr):=fN (renK 0 s) fun ke=>fN (kidN s) fun kk=>fN (stK s) fun ks=>
 some ⟨[(fun _=>0,true),(fun _=>4,true),(fun _=>5,true),(kidN,false),(renK 0,false),(fun _=>8,true),(stK,false)]++pthM k 0,
  fun y=>[(y.e.rv c p).b 1 2 4 5 ke,wRow p.cap p.n y.e.m,y.e.x.row kk y.e.kc p.rc,y.e.x.fam y.e.x.n y.e.kc,evU y.e.ne y.e.nc,y.e.eng 0 9 k cm ks,.row 3 y.e.cs y.e.ns [.cu]]++blkM y.x s k 0,[4],fun y=>[iv y.i],rdXr d k,I,fun y=>n-y.i.toNat⟩
def argRn(k n cap:Nat):List SV:=[.c (.ptr 8 (.k 0) (.k 0) 0 8),.c (slK (11+3*k) 2 n cap)]
def scV(n:Nat)(ka va:Nat->Int):Blk:=.view 1 (fun _=>n) [.ci .i64 fun _ e=>ka e,.ci .i64 fun _ e=>va e]
def hRn(c:Cf)(p:Ep)(cm:Nat)(e:Ee)(x:M5)(k n:Nat)(ka va:Nat->Int):HL:=e.hD c p cm x k 7 6 10 fk0++(9,mV k)::(11+3*k,scV n ka va)::hCk c
def Ee.hZ(e:Ee)(c:Cf)(p:Ep)(ke kk:Nat):HL:=[(0,(e.rv c p).b 1 2 4 5 ke),(4,wRow p.cap p.n e.m),(5,e.x.row kk e.kc p.rc),(kk,e.x.fam e.x.n e.kc),(ke,evU e.ne e.nc),(8,.own tEn 8 (some (.ptr 0 (.k 0) (.k 0) 0 21)::noC 7))]
def LSz(_:SV)(H:Hp):List Nat:=match kidK 5 H.h with
 | some (kk,_)=>[scK (zax 0 20 H.h),kk]
 | none=>[]
def vRn(c:Cf)(p:Ep)(cm:Nat)(e:Ee)(x:M5)(n cap:Nat)(ka va:Nat->Int)(k:Nat)(I:Xr->Prop)(Φ:Ee->Prop):V:=verF P conRn 8 10 fRn ((0,.ren (renK 0))::(0,.ren kidN)::(0,.ren stK)::gsM k 0)
 (.loop Xr [] (laRn c p cm x k n I) .nil .nil) (argRn k n cap) ⟨hRn c p cm e x k n ka va,12+3*k,fun _=>True⟩
 (finV (X:=Ee) (12+3*k) (14+3*k) (fun _ H=>rdEe H.h) LSz Φ (fun _=>.t []) (fun y=>y.hZ c p (12+3*k) (13+3*k)))
end
def okR(c:Cf)(k i:Nat)(e:Ee)(x:M5):Prop:=okEe (1+24*i) c e/\okMs (1+24*i) c k x
def IRn(c:Cf)(k n:Nat)(y:Xr):Prop:=(0<=y.i/\y.i<=(n:Int))/\okR c k y.i.toNat y.e y.x
structure zc7 (c:Cf) (k n:Nat) (e:Ee) (x:M5):Prop where
 hY:okY c
 hC:okC c
 hU:c.nU<=900000
 hn:n<=30000
 h:okR c k 0 e x
section
variable {c:Cf} {k n:Nat} {e:Ee} {x x':M5} {y:Xr} {w:Xe}
theorem okMs.pad{b:Nat}(h:okMs b c k x)(hx:∀j,j<k->at5 x' j=at5 x j):okMs b c k x':=fun j hj=>by rw[hx j hj];exact h j hj
theorem R_0(hp:zc7 c k n e x):IRn c k n ⟨e,x,O 0⟩:=⟨⟨Int.le_refl _,zp n⟩,hp.h⟩
theorem R_lt(hy:IRn c k n y)(hl:decide (y.i<(n:Int))=true):y.i.toNat<n:=by
 have h1:=of_decide_eq_true hl
 have h2:=hy.1.1
 omega
theorem R_ix(hy:IRn c k n y)(hl:decide (y.i<(n:Int))=true):O 0<=y.i/\y.i<(n:Int):=⟨hy.1.1,of_decide_eq_true hl⟩
theorem R_in(hy:IRn c k n y)(hl:decide (y.i<(n:Int))=true):0<1/\0+y.i.toNat<n:=⟨by decide,by have:=R_lt hy hl;omega⟩
theorem R_pre(hp:zc7 c k n e x)(hy:IRn c k n y)(hl:decide (y.i<(n:Int))=true)(hx:∀j,j<k->at5 x' j=at5 y.x j):preDs c k y.e x':=by
 have h1:=R_lt hy hl
 have h2:=hp.hn
 exact⟨1+24*y.i.toNat,hp.hY,hp.hC,hp.hU,⟨by omega,by omega⟩,hy.2.1,hy.2.2.pad hx⟩
theorem R_ex:∃w,ΦDs c k e x w:=⟨⟨e,x⟩,fun b h=>ΦD.same h⟩
theorem R_w(hp:zc7 c k n e x)(hy:IRn c k n y)(hl:decide (y.i<(n:Int))=true)(hx:∀j,j<k->at5 x' j=at5 y.x j)(hw:ΦDs c k y.e x' w):ΦD (1+24*y.i.toNat) c k w.e w.x:=by
 have h1:=R_lt hy hl
 have h2:=hp.hn
 exact hw _ ⟨hp.hY,hp.hC,hp.hU,⟨by omega,by omega⟩,hy.2.1,hy.2.2.pad hx⟩
theorem R_i(hp:zc7 c k n e x)(hy:IRn c k n y)(hl:decide (y.i<(n:Int))=true):i64.wrap (y.i+O 1)=y.i+1:=by
 have h1:=R_ix hy hl
 have h2:=hp.hn
 simp only[zz]at h1 ⊢
 exact w64 (by omega)
theorem R_s(hp:zc7 c k n e x)(hy:IRn c k n y)(hl:decide (y.i<(n:Int))=true){x1 x2:M5}(hw:ΦD (1+24*y.i.toNat) c k w.e x1)(hx:∀j,j<k->at5 x2 j=at5 x1 j):IRn c k n ⟨w.e,x2,i64.wrap (y.i+O 1)⟩:=by
 have h1:=R_ix hy hl
 simp only[zz]at h1
 have e1:=R_i hp hy hl
 have e2:(i64.wrap (y.i+O 1)).toNat=y.i.toNat+1:=by rw[e1];omega
 refine⟨⟨?_,?_⟩,?_⟩
 ·show 0<=i64.wrap _
  rw[e1];omega
 ·show i64.wrap _<=(n:Int)
  rw[e1];omega
 ·show okR c k (i64.wrap (y.i+O 1)).toNat w.e x2
  rw[e2]
  exact⟨hw.1.le (by omega),(hw.2.pad hx).le (by omega)⟩
theorem R_mu(hp:zc7 c k n e x)(hy:IRn c k n y)(hl:decide (y.i<(n:Int))=true):n-(i64.wrap (y.i+O 1)).toNat<n-y.i.toNat:=by
 have h1:=R_ix hy hl
 have h3:=R_lt hy hl
 simp only[zz]at h1
 rw[R_i hp hy hl]
 omega
theorem R_end(hp:zc7 c k n e x)(hy:IRn c k n y):okEe 900000 c y.e:=by
 have h2:=hp.hn
 have h3:=hy.1
 exact hy.2.1.le (by omega)
end
abbrev g138(a0:Nat)(a1:Xr)(k:V):V:=U (a0-(i64.wrap (a1.i+O 1)).toNat<a0-a1.i.toNat) (nN [qE (i64.wrap (a1.i+O 1))] k)
abbrev g184(a0:Xr)(a1:Nat)(k:V):V:=U (O 0<=a0.i/\a0.i<(↑a1:Int)) (U (0<1/\0+a0.i.toNat<a1) k)
abbrev g208(a0:Xr)(a1:Nat)(k:V):V:=U (0<1/\0+a0.i.toNat<a1) (U (0<1/\0+a0.i.toNat<a1) k)
abbrev g332(a0:Xr->Prop)(a1:Ee)(a2:M5)(k:V):V:=U (a0 (Xr.mk a1 a2 (O 0))) (nN [(1,.eqI 0 0)] k)
theorem vRn2_eq(c:Cf)(p:Ep)(cm:Nat)(e:Ee)(x:M5)(n cap:Nat)(ka va:Nat->Int)(I:Xr->Prop)(Φ:Ee->Prop):V.pr .z (vRn c p cm e x n cap ka va 2 I Φ)=
 g332 I e x (g149 c p e.m e e.x (nN (g95 e (g227 cm [])) (g170 e x.a0.m x.a0.f x.a1.m x.a1.f (ze Xr I fun y0=>zj (decide (y0.i<(↑n:Int))) (g184 y0 n (g208 y0 n (nN [qE (ka (0+y0.i.toNat)),qE (va (0+y0.i.toNat))] (g210 c p y0.e.m y0.e y0.e.x (nN (g227 cm []) (g170 y0.e y0.x.a0.m y0.x.a0.f y0.x.a1.m y0.x.a1.f (nN ((1,.le 1 1)::(1,.pf (∀(i:Nat),i<1->2<=2) (by intros;exact Z _))::g71 c []) (U (preDs c 2 y0.e (M5.mk y0.x.a0 y0.x.a1 ma0 ma0 ma0)) (nA (ΦDs c 2 y0.e (M5.mk y0.x.a0 y0.x.a1 ma0 ma0 ma0)) fun y1=>U (I (Xr.mk y1.e (M5.mk y1.x.a0 y1.x.a1 x.a2 x.a3 x.a4) (i64.wrap (y0.i+O 1)))) (g138 n y0 (g210 c p y1.e.m y1.e y1.e.x (nN (g227 cm []) (g170 y1.e y1.x.a0.m y1.x.a0.f y1.x.a1.m y1.x.a1.f zw))))))))))))) (U (Φ y0.e) (g210 c p y0.e.m y0.e y0.e.x zw)))))):=by kernel_rfl
theorem vRn3_eq(c:Cf)(p:Ep)(cm:Nat)(e:Ee)(x:M5)(n cap:Nat)(ka va:Nat->Int)(I:Xr->Prop)(Φ:Ee->Prop):V.pr .z (vRn c p cm e x n cap ka va 3 I Φ)=
 g332 I e x (g149 c p e.m e e.x (nN (g95 e (g221 cm [])) (g170 e x.a0.m x.a0.f x.a1.m x.a1.f (g29 x.a2.m x.a2.f (ze Xr I fun y0=>zj (decide (y0.i<(↑n:Int))) (g184 y0 n (g208 y0 n (nN [qE (ka (0+y0.i.toNat)),qE (va (0+y0.i.toNat))] (g210 c p y0.e.m y0.e y0.e.x (nN (g221 cm []) (g170 y0.e y0.x.a0.m y0.x.a0.f y0.x.a1.m y0.x.a1.f (g29 y0.x.a2.m y0.x.a2.f (nN ((1,.le 1 1)::(1,.pf (∀(i:Nat),i<1->3<=3) (by intros;exact Z _))::g71 c []) (U (preDs c 3 y0.e { y0.x with a3:=ma0,a4:=ma0 }) (nA (ΦDs c 3 y0.e { y0.x with a3:=ma0,a4:=ma0 }) fun y1=>U (I (Xr.mk y1.e { y1.x with a3:=x.a3,a4:=x.a4 } (i64.wrap (y0.i+O 1)))) (g138 n y0 (g210 c p y1.e.m y1.e y1.e.x (nN (g221 cm []) (g170 y1.e y1.x.a0.m y1.x.a0.f y1.x.a1.m y1.x.a1.f (g29 y1.x.a2.m y1.x.a2.f zw))))))))))))))) (U (Φ y0.e) (g210 c p y0.e.m y0.e y0.e.x zw))))))):=by kernel_rfl
theorem vRn4_eq(c:Cf)(p:Ep)(cm:Nat)(e:Ee)(x:M5)(n cap:Nat)(ka va:Nat->Int)(I:Xr->Prop)(Φ:Ee->Prop):V.pr .z (vRn c p cm e x n cap ka va 4 I Φ)=
 g332 I e x (g149 c p e.m e e.x (nN (g95 e (g214 cm [])) (g321 e x.a0.m x.a0.f x.a1.m x.a1.f x.a2.m x.a2.f x.a3.m x.a3.f (ze Xr I fun y0=>zj (decide (y0.i<(↑n:Int))) (g184 y0 n (g208 y0 n (nN [qE (ka (0+y0.i.toNat)),qE (va (0+y0.i.toNat))] (g210 c p y0.e.m y0.e y0.e.x (nN (g214 cm []) (g321 y0.e y0.x.a0.m y0.x.a0.f y0.x.a1.m y0.x.a1.f y0.x.a2.m y0.x.a2.f y0.x.a3.m y0.x.a3.f (nN ((1,.le 1 1)::(1,.pf (∀(i:Nat),i<1->4<=4) (by intros;exact Z _))::g71 c []) (U (preDs c 4 y0.e { y0.x with a4:=ma0 }) (nA (ΦDs c 4 y0.e { y0.x with a4:=ma0 }) fun y1=>U (I (Xr.mk y1.e { y1.x with a4:=x.a4 } (i64.wrap (y0.i+O 1)))) (g138 n y0 (g210 c p y1.e.m y1.e y1.e.x (nN (g214 cm []) (g321 y1.e y1.x.a0.m y1.x.a0.f y1.x.a1.m y1.x.a1.f y1.x.a2.m y1.x.a2.f y1.x.a3.m y1.x.a3.f zw))))))))))))) (U (Φ y0.e) (g210 c p y0.e.m y0.e y0.e.x zw)))))):=by kernel_rfl
theorem vRn5_eq(c:Cf)(p:Ep)(cm:Nat)(e:Ee)(x:M5)(n cap:Nat)(ka va:Nat->Int)(I:Xr->Prop)(Φ:Ee->Prop):V.pr .z (vRn c p cm e x n cap ka va 5 I Φ)=
 g332 I e x (g149 c p e.m e e.x (nN (g95 e (g207 cm [])) (g321 e x.a0.m x.a0.f x.a1.m x.a1.f x.a2.m x.a2.f x.a3.m x.a3.f (g29 x.a4.m x.a4.f (ze Xr I fun y0=>zj (decide (y0.i<(↑n:Int))) (g184 y0 n (g208 y0 n (nN [qE (ka (0+y0.i.toNat)),qE (va (0+y0.i.toNat))] (g210 c p y0.e.m y0.e y0.e.x (nN (g207 cm []) (g321 y0.e y0.x.a0.m y0.x.a0.f y0.x.a1.m y0.x.a1.f y0.x.a2.m y0.x.a2.f y0.x.a3.m y0.x.a3.f (g29 y0.x.a4.m y0.x.a4.f (nN ((1,.le 1 1)::(1,.pf (∀(i:Nat),i<1->5<=5) (by intros;exact Z _))::g71 c []) (U (preDs c 5 y0.e y0.x) (nA (ΦDs c 5 y0.e y0.x) fun y1=>U (I (Xr.mk y1.e y1.x (i64.wrap (y0.i+O 1)))) (g138 n y0 (g210 c p y1.e.m y1.e y1.e.x (nN (g207 cm []) (g321 y1.e y1.x.a0.m y1.x.a0.f y1.x.a1.m y1.x.a1.f y1.x.a2.m y1.x.a2.f y1.x.a3.m y1.x.a3.f (g29 y1.x.a4.m y1.x.a4.f zw))))))))))))))) (U (Φ y0.e) (g210 c p y0.e.m y0.e y0.e.x zw))))))):=by kernel_rfl
section
variable {c:Cf} {p:Ep} {cm:Nat} {e:Ee} {x x1 x2 x':M5} {n cap k:Nat} {ka va:Nat->Int} {Φ:Ee->Prop} {y:Xr} {w:Xe}
theorem N_ka(hp:zc7 c k n e x)(hy:IRn c k n y)(hl:decide (y.i<(n:Int))=true)(hx:∀j,j<k->at5 x' j=at5 y.x j)(hw:ΦDs c k y.e x' w)(i:Nat):upto w.e.x.n w.e.x.kl i<=w.e.kc i/\upto w.e.x.n w.e.x.kl i<=upto w.e.x.n w.e.x.kl i:=(R_w hp hy hl hx hw).1.ka i
theorem N_la(hp:zc7 c k n e x)(hy:IRn c k n y)(hl:decide (y.i<(n:Int))=true)(hx:∀j,j<k->at5 x' j=at5 y.x j)(hw:ΦDs c k y.e x' w)(j:Nat)(hj:j<k)(i:Nat):upto (at5 w.x j).m.n (at5 w.x j).f.ll i<=(at5 w.x j).f.lc i/\upto (at5 w.x j).m.n (at5 w.x j).f.ll i<=upto (at5 w.x j).m.n (at5 w.x j).f.ll i:=((R_w hp hy hl hx hw).2 j hj).la i
theorem N_s(hp:zc7 c k n e x)(hy:IRn c k n y)(hl:decide (y.i<(n:Int))=true)(hx:∀j,j<k->at5 x' j=at5 y.x j)(hw:ΦDs c k y.e x' w)(h2:∀j,j<k->at5 x2 j=at5 w.x j):IRn c k n ⟨w.e,x2,i64.wrap (y.i+O 1)⟩:=R_s hp hy hl (R_w hp hy hl hx hw) h2
theorem I_la(hy:IRn c k n y)(j:Nat)(hj:j<k)(i:Nat):upto (at5 y.x j).m.n (at5 y.x j).f.ll i<=(at5 y.x j).f.lc i/\upto (at5 y.x j).m.n (at5 y.x j).f.ll i<=upto (at5 y.x j).m.n (at5 y.x j).f.ll i:=(hy.2.2 j hj).la i
theorem J_la(hp:zc7 c k n e x)(j:Nat)(hj:j<k)(i:Nat):upto (at5 x j).m.n (at5 x j).f.ll i<=(at5 x j).f.lc i/\upto (at5 x j).m.n (at5 x j).f.ll i<=upto (at5 x j).m.n (at5 x j).f.ll i:=(hp.h.2 j hj).la i
theorem vhRn(hΦ:∀y,okEe 900000 c y->Φ y):
  (zc7 c 2 n e x->zad (vRn c p cm e x n cap ka va 2 (IRn c 2 n) Φ))/\(zc7 c 3 n e x->zad (vRn c p cm e x n cap ka va 3 (IRn c 3 n) Φ))/\
  (zc7 c 4 n e x->zad (vRn c p cm e x n cap ka va 4 (IRn c 4 n) Φ))/\(zc7 c 5 n e x->zad (vRn c p cm e x n cap ka va 5 (IRn c 5 n) Φ)):=by
 refine⟨fun hp=>zad.pr (vRn2_eq ..) ?_,fun hp=>zad.pr (vRn3_eq ..) ?_,fun hp=>zad.pr (vRn4_eq ..) ?_,fun hp=>zad.pr (vRn5_eq ..) ?_⟩
 all_goals
  have px:∀ {a b:M5} {q:Nat},(q<=5/\(0<q->a.a0=b.a0)/\(1<q->a.a1=b.a1)/\(2<q->a.a2=b.a2)/\(3<q->a.a3=b.a3)/\(4<q->a.a4=b.a4))->∀j,j<q->at5 a j=at5 b j:=fun h j hj=>by
   rcases(show j=0\/j=1\/j=2\/j=3\/j=4 by omega) with rfl|rfl|rfl|rfl|rfl
   ·exact h.2.1 hj
   ·exact h.2.2.1 hj
   ·exact h.2.2.2.1 hj
   ·exact h.2.2.2.2.1 hj
   ·exact h.2.2.2.2.2 hj
  (with_reducible repeat' first|exact zk|refine zn ?_|refine zm ?_|refine zl ?_ ?_|refine zi ?_|refine nN_h rfl ?_|refine z9 ?_ ?_|intro _)
 all_goals first
  | rfl
  | exact .inl rfl
  | exact Z _
  | exact R_0 hp
  | exact okEe.ka hp.h.1 _
  | exact J_la hp 0 (by decide) _
  | exact J_la hp 1 (by decide) _
  | exact J_la hp 2 (by decide) _
  | exact J_la hp 3 (by decide) _
  | exact J_la hp 4 (by decide) _
  | exact R_ix ‹_› ‹_›
  | exact R_in ‹_› ‹_›
  | (rename_i y hy hl _;exact okEe.ka hy.2.1 _)
  | (rename_i y hy hl _;first|exact I_la hy 0 (by decide) _|exact I_la hy 1 (by decide) _|exact I_la hy 2 (by decide) _|exact I_la hy 3 (by decide) _|exact I_la hy 4 (by decide) _)
  | (rename_i y hy hl;exact R_pre hp hy hl (px (by simp)))
  | exact R_ex
  | (rename_i y hy hl w hw;exact R_mu hp hy hl)
  | (rename_i y hy hl w hw;exact N_s hp hy hl (px (by simp)) hw (px (by simp)))
  | (rename_i y hy hl w hw _;exact N_ka hp hy hl (px (by simp)) hw _)
  | (rename_i y hy hl w hw _;first|exact N_la hp hy hl (px (by simp)) hw 0 (by decide) _|exact N_la hp hy hl (px (by simp)) hw 1 (by decide) _|exact N_la hp hy hl (px (by simp)) hw 2 (by decide) _|exact N_la hp hy hl (px (by simp)) hw 3 (by decide) _|exact N_la hp hy hl (px (by simp)) hw 4 (by decide) _)
  | (rename_i y hy hl;exact hΦ _ (R_end hp hy))
  | trace_state
end
noncomputable section
abbrev FrM:=Fr
def fMa:FuncId:=13
def fkR(r:Fr):Fk:=⟨fun _=>r.kd,fun _=>1,fun _=>r.qt,fun _=>r.qb,fun _=>r.qr,fun _=>r.qc,fun _=>r.a,fun _=>r.b,fun _=>r.d,fun _=>r.i,fun _=>r.j,fun _=>r.n,fun _=>r.t,fun _=>r.u,fun _=>r.v,fun _=>r.w,fun _=>r.x,fun _=>0,fun _=>0,fun _ _=>0⟩
def maR(r:Fr):Ma:=⟨fkR r,⟨1,1,false,0,0⟩⟩
def frT(t:Nat)(s:St):Nat:=scK (zax (tmK t s) 0 s.H.h)
def lsF(kf:Nat)(h:HL):Nat:=match (find kf h).map zfe with
 | some [_,_,_,_,_,_,_,_,_,_,_,_,_,_,_,_,_,.cs k _ _ _ _]=>k
 | _=>0
def psMa(r:Fr):PS:=.one 3 (fun s H=>fN (tupK s) fun km=>fN (scK (zax km 0 H.h)) fun kf=>[km,kf,lsF kf H.h]) (.c (.ptr 0 (.k 0) (.k 0) 0 4)) ((maR r).hl 0 1 2)
def vMa(r:Fr):V:=verF P con0 3 6 fMa [(1000000,.nilCol (frT 2) 17 3 1 [.ci .i64 fun _ _=>0])] .nil [.a (r.cs .nils)] ⟨[],0,fun _=>True⟩ ((psMa r).fin 0)
end
abbrev g157(l:LP):LP:=(2,.eq 1 1)::g70 ((1,.eq 1 1)::(1,.le 1 1)::l)
abbrev g158(k:V):V:=nN [qF 1 (fun (e:Nat)=>e),qF 1 (fun (e:Nat)=>0),qF 1 (fun (e:Nat)=>0)] (U (∀(i:Nat),0=0\/0=0) k)
abbrev g186(k:V):V:=U (∀(i:Nat),upto 1 (fun (x:Nat)=>0) i<=0/\upto 1 (fun (x:Nat)=>0) i<=0) (nN [(1,.pf (∀(i e:Nat),e<upto 1 (fun (x:Nat)=>0) i->O 0=O 0) (by intros;rfl))] k)
abbrev g237(a0:FrM)(k:V):V:=U (∀(e:Nat),e<1->e=0->O 1=O 1) (U (∀(e:Nat),e<1->e < [SC.iv IntKind.i64 a0.qt].length) k)
abbrev g273(a0:FrM)(k:V):V:=U (∀(e:Nat),e<1->e < [SC.iv IntKind.i64 a0.kd].length) (U (∀(e:Nat),e<1->e=0->a0.kd=a0.kd) k)
abbrev g274(a0:FrM)(k:V):V:=U (∀(e:Nat),e<1->e=0->a0.qt=a0.qt) (U (∀(e:Nat),e<1->e < [SC.iv IntKind.i64 a0.qb].length) k)
abbrev g275(a0:FrM)(k:V):V:=U (∀(e:Nat),e<1->e=0->a0.qb=a0.qb) (U (∀(e:Nat),e<1->e < [SC.iv IntKind.i64 a0.qr].length) k)
abbrev g276(a0:FrM)(k:V):V:=U (∀(e:Nat),e<1->e=0->a0.qr=a0.qr) (U (∀(e:Nat),e<1->e < [SC.iv IntKind.i64 a0.qc].length) k)
abbrev g277(a0:FrM)(k:V):V:=U (∀(e:Nat),e<1->e=0->a0.qc=a0.qc) (U (∀(e:Nat),e<1->e < [SC.iv IntKind.i64 a0.a].length) k)
abbrev g279(a0:FrM)(k:V):V:=U (∀(e:Nat),e<1->e=0->a0.a=a0.a) (U (∀(e:Nat),e<1->e < [SC.iv IntKind.i64 a0.b].length) k)
abbrev g280(a0:FrM)(k:V):V:=U (∀(e:Nat),e<1->e < [SC.iv IntKind.i64 a0.i].length) (U (∀(e:Nat),e<1->e=0->a0.i=a0.i) k)
abbrev g281(a0:FrM)(k:V):V:=U (∀(e:Nat),e<1->e < [SC.iv IntKind.i64 a0.j].length) (U (∀(e:Nat),e<1->e=0->a0.j=a0.j) k)
abbrev g282(a0:FrM)(k:V):V:=U (∀(e:Nat),e<1->e < [SC.iv IntKind.i64 a0.n].length) (U (∀(e:Nat),e<1->e=0->a0.n=a0.n) k)
abbrev g283(a0:FrM)(k:V):V:=U (∀(e:Nat),e<1->e < [SC.iv IntKind.i64 a0.t].length) (U (∀(e:Nat),e<1->e=0->a0.t=a0.t) k)
abbrev g284(a0:FrM)(k:V):V:=U (∀(e:Nat),e<1->e < [SC.iv IntKind.u64 a0.u].length) (U (∀(e:Nat),e<1->e=0->a0.u=a0.u) k)
abbrev g285(a0:FrM)(k:V):V:=U (∀(e:Nat),e<1->e < [SC.iv IntKind.u64 a0.v].length) (U (∀(e:Nat),e<1->e=0->a0.v=a0.v) k)
abbrev g286(a0:FrM)(k:V):V:=U (∀(e:Nat),e<1->e < [SC.iv IntKind.u64 a0.w].length) (U (∀(e:Nat),e<1->e=0->a0.w=a0.w) k)
abbrev g287(a0:FrM)(k:V):V:=U (∀(e:Nat),e<1->e < [SC.iv IntKind.u64 a0.x].length) (U (∀(e:Nat),e<1->e=0->a0.x=a0.x) k)
theorem vMa_eq(r:FrM):V.pr .z (vMa r)=
 zj (r.kd == O 22) (U True (nN (g157 []) (g273 r (U (∀(e:Nat),e<1->e<1) (g237 r (g274 r (g275 r (g276 r (g277 r (g279 r (U (∀(e:Nat),e<1->e=0->r.b=r.b) (U (∀(e:Nat),e<1->e<1) (U (∀(e:Nat),e<1->e=0->Int.negSucc 0=r.d) (g280 r (g281 r (g282 r (g283 r (g284 r (g285 r (g286 r (g287 r (g158 (g186 zw))))))))))))))))))))))) (U True (nN (g157 []) (g273 r (U (∀(e:Nat),e<1->e<1) (g237 r (g274 r (g275 r (g276 r (g277 r (g279 r (U (∀(e:Nat),e<1->e=0->r.b=r.b) (U (∀(e:Nat),e<1->e < [SC.iv IntKind.i64 r.d].length) (U (∀(e:Nat),e<1->e=0->r.d=r.d) (g280 r (g281 r (g282 r (g283 r (g284 r (g285 r (g286 r (g287 r (g158 (g186 zw))))))))))))))))))))))):=by kernel_rfl
theorem vhMa{r:FrM}(h:r.kd≠22):zad (vMa r):=by
 have h2:(r.kd == O 22)=false:=by simpa using h
 refine zad.pr (vMa_eq ..) ?_
 (with_reducible repeat' first|exact zk|refine zn ?_|refine zm ?_|refine zl ?_ ?_|refine zi ?_|refine nN_h rfl ?_|refine z9 ?_ ?_|intro _)
 all_goals first
  | rfl
  | exact .inl rfl
  | assumption
  | (intros;assumption)
  | trivial
  | (exact⟨by simp[upto],by simp[upto]⟩)
  | (rename_i h3;rw[h2]at h3;cases h3)
  | (rename_i h3 _;rw[h2]at h3;cases h3)
  | (rename_i h3 _ _;rw[h2]at h3;cases h3)
  | (rename_i h3 _ _ _;rw[h2]at h3;cases h3)
  | trace_state
noncomputable section
def cMa:List SV->Hp->Out (SV×Hp):=fun args H=>match args with
 | [.a l]=>match rdFr l with
  | some (r,_)=>useP [] 0 [.a (r.cs .nils)] [] (.need (r.kd≠22) (psMa r).out) args H
  | none=>.bad 494
 | _=>.bad 495
theorem cMa_ok:zab P fMa cMa:=zac fun args H=>by
 unfold cMa
 repeat' split
 all_goals first
  | exact .inl ⟨_,rfl⟩
  | exact .inr ⟨_,_,_,_,_,rfl,zcb zaj.nil fun h=>vhMa h⟩
end
noncomputable section
def postR(c:Cf)(p:Ep)(e:Ee)(x:M5)(n k:Nat):Out (SV×Hp):=.need (zc7 c k n e x) (.any Ee (okEe 900000 c) fun y=>.leaf (.t [],⟨y.hZ c p (12+3*k) (13+3*k),14+3*k,fun _=>True⟩))
def cRn:List SV->Hp->Out (SV×Hp):=fun args H=>match args with
 | [.c (.ptr kx _ _ _ _),.c (.slc kl _ _ _ n cap)]=>fN kx fun kx=>fN kl fun kl=>match rdEn kx H.h,(find kl H.h).map zfe with
  | some ⟨c,p,e,x,cm,k,σ⟩,some [ck,cv]=>match colG ck,colG cv with
   | some ka,some va=>match k with
    | 2=>useP (σ++[kl]) 18 (argRn 2 n.v cap.v) (hRn c p cm e x 2 n.v (fun e=>ka e) (fun e=>va e)) (postR c p e x n.v 2) args H
    | 3=>useP (σ++[kl]) 21 (argRn 3 n.v cap.v) (hRn c p cm e x 3 n.v (fun e=>ka e) (fun e=>va e)) (postR c p e x n.v 3) args H
    | 4=>useP (σ++[kl]) 24 (argRn 4 n.v cap.v) (hRn c p cm e x 4 n.v (fun e=>ka e) (fun e=>va e)) (postR c p e x n.v 4) args H
    | 5=>useP (σ++[kl]) 27 (argRn 5 n.v cap.v) (hRn c p cm e x 5 n.v (fun e=>ka e) (fun e=>va e)) (postR c p e x n.v 5) args H
    | _=>.bad 490
   | _,_=>.bad 493
  | _,_=>.bad 491
 | _=>.bad 492
theorem lRn2{c:Cf}{p:Ep}{cm:Nat}{e:Ee}{x:M5}{n cap:Nat}{ka va:Nat->Int}:zah P fRn (argRn 2 n cap) (hRn c p cm e x 2 n ka va) 18 (postR c p e x n 2):=zae zgh fun h=>(vhRn fun _ h=>h).1 h
theorem lRn3{c:Cf}{p:Ep}{cm:Nat}{e:Ee}{x:M5}{n cap:Nat}{ka va:Nat->Int}:zah P fRn (argRn 3 n cap) (hRn c p cm e x 3 n ka va) 21 (postR c p e x n 3):=zae zgh fun h=>(vhRn fun _ h=>h).2.1 h
theorem lRn4{c:Cf}{p:Ep}{cm:Nat}{e:Ee}{x:M5}{n cap:Nat}{ka va:Nat->Int}:zah P fRn (argRn 4 n cap) (hRn c p cm e x 4 n ka va) 24 (postR c p e x n 4):=zae zgh fun h=>(vhRn fun _ h=>h).2.2.1 h
theorem lRn5{c:Cf}{p:Ep}{cm:Nat}{e:Ee}{x:M5}{n cap:Nat}{ka va:Nat->Int}:zah P fRn (argRn 5 n cap) (hRn c p cm e x 5 n ka va) 27 (postR c p e x n 5):=zae zgh fun h=>(vhRn fun _ h=>h).2.2.2 h
theorem cRn_ok:zab P fRn cRn:=zac fun args H=>by
 unfold cRn
 simp only[fN_eq]
 repeat' split
 all_goals first
  | exact .inl ⟨_,rfl⟩
  | with_reducible exact .inr ⟨_,_,_,_,_,rfl,lRn2⟩
  | with_reducible exact .inr ⟨_,_,_,_,_,rfl,lRn3⟩
  | with_reducible exact .inr ⟨_,_,_,_,_,rfl,lRn4⟩
  | with_reducible exact .inr ⟨_,_,_,_,_,rfl,lRn5⟩
def frW(kd a j:Int):Fr:=⟨kd,0,0,0,0,0,a,0,0,0,j,0,0,0,0,0,0⟩
def wkJ(c:Cf)(j:Nat):Ma:=maR (frW 25 (j:Int) (Int.tmod (j:Int) c.T))
def cl0:Ma:=maR (frW 26 0 0)
def m5W(c:Cf)(k:Nat):M5:=match k with
 | 2=>⟨wkJ c 0,cl0,ma0,ma0,ma0⟩
 | 3=>⟨wkJ c 0,wkJ c 1,cl0,ma0,ma0⟩
 | 4=>⟨wkJ c 0,wkJ c 1,wkJ c 2,cl0,ma0⟩
 | _=>⟨wkJ c 0,wkJ c 1,wkJ c 2,wkJ c 3,cl0⟩
def rk0(n:Nat):Rk:=⟨n,fun _=>0,fun _=>-1,fun _=>0,fun _=>0,fun _=>-1,fun _=>0,fun _ _=>0,fun _=>false⟩
def mm0:Mm:=⟨fun _=>0,0,0,0,0,0⟩
def ee0(n ec sc:Nat):Ee:=⟨mm0,0,0,rk0 n,fun _=>0,0,ec,0,0,sc,0,0,0,0⟩
def epN(n rc:Nat):Ep:=⟨n,n,rc,0,0⟩
def nmN(j:Nat):Nat:=11+3*j
def hlN(x:M5):Nat->Nat->HL
 | 0,_=>[]
 | i+1,j=>(at5 x j).hl (nmN j) (nmN j+1) (nmN j+2)++hlN x i (j+1)
def ptN:Nat->Nat->List SC
 | 0,_=>[]
 | i+1,j=>.ptr (nmN j) (.k 0) (.k 0) 0 4::ptN i (j+1)
def Ee.hN(e:Ee)(c:Cf)(p:Ep)(cm:Nat)(x:M5)(k:Nat):HL:=[(3,e.eng 4 9 k cm 10),(4,(e.rv c p).b 0 1 5 6 8),(5,wRow p.cap p.n e.m),(6,e.x.row 7 e.kc p.rc),(7,e.x.fam e.x.n e.kc),(8,evU e.ne e.nc),(9,.row tPm cm k [.ck (ptN k 0)]),(10,.row 3 e.cs e.ns [.cu])]++hlN x k 0
def ckK(kx:Nat)(h:HL):List Nat:=match (find (scK (zax kx 1 h)) h).map zfe with
 | some [.ck l]=>ptL l
 | _=>[]
def lsM(h:HL):List Nat->List Nat
 | []=>[]
 | km::l=>fN (scK (zax km 0 h)) fun kf=>km::kf::lsF kf h::lsM h l
def LSn(s:SV)(H:Hp):List Nat:=fN (tupK s) fun kx=>fN (scK (zax kx 0 H.h)) fun ke=>match ceS ke 11 H.h,ceS ke 19 H.h,ceS ke 20 H.h with
 | some (r1,_,_),some (r4,_,_),some (r5,_,_)=>match kidK r4 H.h with
  | some (f2,_)=>kx::ke::r1::r4::f2::r5::scK (zax kx 1 H.h)::scK (zax kx 3 H.h)::lsM H.h (ckK kx H.h)
  | none=>[]
 | _,_,_=>[]
structure Xn4 where
 cm:Nat
 rc:Nat
 ec:Nat
 sc:Nat
def rdN(s:SV)(H:Hp):Option Xn4:=fN (tupK s) fun kx=>match rdEeK (scK (zax kx 0 H.h)) kx H.h,capK (scK (zax (scK (zax kx 0 H.h)) 19 H.h)) H.h with
 | some (e,cm),some rc=>some ⟨cm,rc,e.nc,e.cs⟩
 | _,_=>none
def selN4(k:Nat)(s:SV)(H:Hp):Bool:=Nat.beq (ckK (tupK s) H.h).length k
def okN(c:Cf)(k:Nat)(q:Xn4):Prop:=k<=q.cm/\c.T.toNat<=q.rc
def leN(c:Cf)(k:Nat):PS:=.leaf Xn4 (11+3*k) rdN LSn (okN c k) (fun _=>.c (.ptr 3 (.k 0) (.k 0) 0 8)) (fun q=>(ee0 c.T.toNat q.ec q.sc).hN c (epN (ncN c) q.rc) q.cm (m5W c k) k)
def psN(c:Cf):PS:=.br (decide (c.W=1)) (selN4 2) (leN c 2) (.br (decide (c.W=2)) (selN4 3) (leN c 3) (.br (decide (c.W=3)) (selN4 4) (leN c 4) (leN c 5)))
def conN4:Con:=Con.add 17 conNewR (Con.add fMa cMa con0)
theorem conN4_ok:zaj P conN4:=.add conNewR_ok (.add cMa_ok zaj.nil)
def n4R(s:St):Nat:=scK (zax (tmK 3 s) 0 s.H.h)
def n4X(s:St):Nat:=scK (zax (n4R s) 19 s.H.h)
def gsN:List (Nat×G):=[(2,.nilCell (tmK 3) 3 3 1 fun _=>[.cu]),(2,.nilCell n4R 20 152 5 fun _=>[.cu,.cu,.cu,.cu,.cu]),(2,.nilCol n4X 5 3 1 [.ci .i64 fun _ _=>0])]
def vN4(c:Cf):V:=verF P conN4 6 5 fN28 gsN (.unroll [] .nil) [argC c] ⟨hC c,3,fun _=>True⟩ ((psN c).fin 3)
end
abbrev g1(l:LP):LP:=qF 1 (fun (e:Nat)=>O 0)::qF 1 (fun (e:Nat)=>O 0)::l
abbrev g59(l:LP):LP:=g1 (qF 1 (fun (e:Nat)=>O 0)::l)
abbrev g67(a0:Cf)(k:V):V:=U (∀(i:Nat),upto a0.T.toNat (fun (x:Nat)=>0) i<=0/\upto a0.T.toNat (fun (x:Nat)=>0) i<=0) (nN [(1,.pf (∀(i e:Nat),e<upto a0.T.toNat (fun (x:Nat)=>0) i->O 0=O 0) (by intros;rfl))] k)
abbrev g92(l:LP):LP:=g1 (g1 l)
abbrev g94(l:LP):LP:=(1,.eq 0 0)::(1,.le 0 0)::l
abbrev g123(a0:Cf)(k:V):V:=nN (g59 []) (U (∀(e:Nat),e<1->(O 0).tmod a0.T=(↑0:Int).tmod a0.T) k)
abbrev g148(k:V):V:=nN (g92 []) (U (∀(e:Nat),e<1->O 0=(↑0:Int)) k)
abbrev g166(a0:Cf)(k:V):V:=U (decide (a0.W=O 1)=false) (U (decide (a0.W=O 2)=false) k)
abbrev g175(a0:Cf)(k:V):V:=nN (g59 []) (U (∀(e:Nat),e<1->(O 1).tmod a0.T=(↑1:Int).tmod a0.T) k)
abbrev g192(k:V):V:=nN (g92 []) (U (∀(e:Nat),e<1->O 1=(↑1:Int)) k)
abbrev g195(a0:Cf)(k:V):V:=nN [(5,.lt2 0 1 0 1)] (U (a0.T≠O 0) k)
abbrev g197(a0:Cf)(k:Nat->V):V:=U (okY a0) (nA (fun (x:Nat)=>a0.T.toNat<=x) fun v0=>k v0)
abbrev g209(l:LP):LP:=g157 (qF 1 (fun (e:Nat)=>O 25)::qF 1 (fun (e:Nat)=>O 1)::l)
abbrev g222(a0:Cf)(k:V):V:=nN (g59 []) (U (∀(e:Nat),e<1->(O 2).tmod a0.T=(↑2:Int).tmod a0.T) k)
abbrev g228(k:V):V:=nN (g92 []) (U (∀(e:Nat),e<1->O 2=(↑2:Int)) k)
abbrev g229(l:LP):LP:=(1,.neI 26 22)::(1,.lt2 0 1 0 1)::l
abbrev g242(a0:Cf)(a1 a2:Nat)(k:V):V:=U (decide (a0.W=O 3)=false) (U (En.okN a0 5 (Xn4.mk a1 a2 0 0)) k)
abbrev g251(k:Nat->V):V:=U (0+1<=9223372036854775807/\(0+1)*8<=140737488355328) (ze Nat (fun (x:Nat)=>0+1<=x) fun v0=>k v0)
abbrev g252(k:Nat->V):V:=U (1+1<=9223372036854775807/\(1+1)*8<=140737488355328) (ze Nat (fun (x:Nat)=>1+1<=x) fun v0=>k v0)
abbrev g253(k:Nat->V):V:=U (2+1<=9223372036854775807/\(2+1)*8<=140737488355328) (ze Nat (fun (x:Nat)=>2+1<=x) fun v0=>k v0)
abbrev g254(k:Nat->V):V:=U (3+1<=9223372036854775807/\(3+1)*8<=140737488355328) (ze Nat (fun (x:Nat)=>3+1<=x) fun v0=>k v0)
abbrev g255(k:Nat->V):V:=U (4+1<=9223372036854775807/\(4+1)*8<=140737488355328) (ze Nat (fun (x:Nat)=>4+1<=x) fun v0=>k v0)
abbrev g256(k:Nat->V):V:=U (5+1<=9223372036854775807/\(5+1)*8<=140737488355328) (ze Nat (fun (x:Nat)=>5+1<=x) fun v0=>k v0)
abbrev g203(k:V):V:=nN (g92 (g1 [])) (g158 k)
abbrev g12(k:V):V:=U (∀(i:Nat),upto 1 (fun (x:Nat)=>0) i<=0/\upto 1 (fun (x:Nat)=>0) i<=upto 1 (fun (x:Nat)=>0) i) (nN [(1,.pf (∀(i e:Nat),e<upto 1 (fun (x:Nat)=>0) i->O 0=O 0) (by intros;rfl))] k)
abbrev g263(k:V):V:=g203 (g12 k)
abbrev g136(a0:Cf)(l:LP):LP:=g19 a0 (qE (ncN a0)::qE (ncN a0)::l)
abbrev g270(a0:Cf)(l:LP):LP:=g136 a0 ((7,.eqI 0 0)::qE a0.T.toNat::l)
abbrev g294(l:LP):LP:=(1,.eqI 25 25)::(5,.eqI 0 0)::l
abbrev g308(l:LP):LP:=(3,.lt2 0 1 0 1)::(1,.eqI 26 26)::(16,.eqI 0 0)::l
abbrev g318(l:LP):LP:=(6,.eqI 0 0)::(1,.neI 25 22)::(1,.lt2 0 1 0 1)::l
abbrev g322(k:V):V:=nN (g92 []) (U (∀(e:Nat),e<1->O 3=(↑3:Int)) k)
abbrev g58(a0:Cf)(k:V):V:=U (ncN a0<=ncN a0) (nN [(1,.pf (∀(e:Nat),e<ncN a0->O 0=O 0) (by intros;rfl))] k)
abbrev g88(a0:Cf)(l:LP):LP:=(2,.eq 0 0)::qE (ncN a0)::l
abbrev g336(a0:Cf)(k:V):V:=nN (g88 a0 []) (g58 a0 k)
abbrev g52(a0:Cf)(l:LP):LP:=qF a0.T.toNat (fun (e:Nat)=>O 0)::qF a0.T.toNat (fun (e:Nat)=>-O 1)::l
abbrev g337(a0:Cf)(k:V):V:=nN (qL a0.T.toNat::g52 a0 (qF a0.T.toNat (fun (e:Nat)=>O 0)::g52 a0 [qF a0.T.toNat (fun (e:Nat)=>e),qF a0.T.toNat (fun (e:Nat)=>0),qF a0.T.toNat (fun (e:Nat)=>0),qF a0.T.toNat (fun (e:Nat)=>false)])) (U (∀(i:Nat),0=0\/0=0) k)
abbrev g338(a0:Cf)(k:V):V:=nN (g59 []) (U (∀(e:Nat),e<1->(O 3).tmod a0.T=(↑3:Int).tmod a0.T) k)
abbrev g341(k:V):V:=g263 (nN (g209 []) k)
abbrev g352(l:LP):LP:=(1,.eqI 0 0)::(2,.eq 0 0)::(4,.eqI 0 0)::l
abbrev g357(k:V):V:=nN (g157 (qF 1 (fun (e:Nat)=>O 26)::qF 1 (fun (e:Nat)=>O 1)::g92 (g92 (g92 (g59 []))))) (g158 k)
theorem vN4_eq(c:Cf):V.pr .z (vN4 c)=
 nN (g19 c (g71 c [])) (g197 c fun y0=>zj (decide (O 0<c.W)) (g195 c (nN ((1,.eqI 25 25)::(9,.eqI 0 0)::qE ((O 0).tmod c.T)::g318 []) (g251 fun y1=>nN [(2,.lt2 0 1 0 1)] (zj (decide (O 1<c.W)) (g195 c (nN (g294 ((1,.eqI 1 1)::(3,.eqI 0 0)::qE ((O 1).tmod c.T)::g318 [])) (U (1<=0+1/\y1=y1) (g252 fun y2=>nN [(2,.lt2 0 1 0 1)] (zj (decide (O 2<c.W)) (g195 c (nN (g294 ((1,.eqI 2 2)::(3,.eqI 0 0)::qE ((O 2).tmod c.T)::g318 [])) (U (2<=1+1/\y2=y2) (g253 fun y3=>nN [(2,.lt2 0 1 0 1)] (zj (decide (O 3<c.W)) (g195 c (nN (g294 ((1,.eqI 3 3)::(3,.eqI 0 0)::qE ((O 3).tmod c.T)::g318 [])) (U (3<=2+1/\y3=y3) (g254 fun y4=>nN [(2,.lt2 0 1 0 1)] (zj (decide (O 4<c.W)) (g195 c (nN (g294 ((1,.eqI 4 4)::(3,.eqI 0 0)::qE ((O 4).tmod c.T)::g318 [])) (U (4<=3+1/\y4=y4) (g255 fun y5=>nN [(2,.lt2 0 1 0 1)] (zj (decide (O 5<c.W)) (g195 c (nN (g294 ((1,.eqI 5 5)::(3,.eqI 0 0)::qE ((O 5).tmod c.T)::g318 [])) (U (5<=4+1/\y5=y5) (g256 fun y6=>nN [(2,.lt2 0 1 0 1)] (V.bad 301))))) (nN (g308 (g229 [])) (U (5<=4+1/\y5=y5) (g256 fun y6=>nN [(2,.lt2 0 1 0 1)] (g166 c (g242 c y6 y0 (U (6=5) (nN (qE y6::g352 (g270 c [qE y0])) (g336 c (nN [qE y0] (g337 c (g67 c (nN (g94 [qE y6]) (U (5<=5+1) (nN (g94 (g209 [])) (g148 (g123 c (g341 (g192 (g175 c (g341 (g228 (g222 c (g341 (g322 (g338 c (g263 (nN (g157 []) (U (∀(e:Nat),e<1->O 25=O 26) (nN (qF 1 (fun (e:Nat)=>O 1)::g92 []) (U (∀(e:Nat),e<1->O 4=O 0) (nN (g59 []) (U (∀(e:Nat),e<1->(O 4).tmod c.T=O 0) (g263 zw)))))))))))))))))))))))))))))))))))))) (nN (g308 (g229 [])) (U (4<=3+1/\y4=y4) (g255 fun y5=>nN [(2,.lt2 0 1 0 1)] (g166 c (g242 c y5 y0 (nN (g207 y5 (g352 (g270 c [qE y0]))) (g336 c (nN [qE y0] (g337 c (g67 c (nN (g94 [qE y5]) (U (5<=4+1) (nN (g94 (g209 [])) (g148 (g123 c (g341 (g192 (g175 c (g341 (g228 (g222 c (g341 (g322 (g338 c (g263 (g357 (g12 zw)))))))))))))))))))))))))))))))) (nN (g308 (g229 [])) (U (3<=2+1/\y3=y3) (g254 fun y4=>nN [(2,.lt2 0 1 0 1)] (g166 c (U (decide (c.W=O 3)=true) (U (En.okN c 4 (Xn4.mk y4 y0 0 0)) (nN (g214 y4 (g352 (g270 c [qE y0]))) (g336 c (nN [qE y0] (g337 c (g67 c (nN (g94 [qE y4]) (U (4<=3+1) (nN (g94 (g209 [])) (g148 (g123 c (g341 (g192 (g175 c (g341 (g228 (g222 c (g263 (g357 (g12 zw)))))))))))))))))))))))))))))) (nN (g308 (g229 [])) (U (2<=1+1/\y2=y2) (g253 fun y3=>nN [(2,.lt2 0 1 0 1)] (U (decide (c.W=O 1)=false) (U (decide (c.W=O 2)=true) (U (En.okN c 3 (Xn4.mk y3 y0 0 0)) (nN (g221 y3 (g352 (g270 c [qE y0]))) (g336 c (nN [qE y0] (g337 c (g67 c (nN (g94 [qE y3]) (U (3<=2+1) (nN (g94 (g209 [])) (g148 (g123 c (g341 (g192 (g175 c (g263 (g357 (g12 zw))))))))))))))))))))))))))) (nN (g308 (g229 [])) (U (1<=0+1/\y1=y1) (g252 fun y2=>nN [(2,.lt2 0 1 0 1)] (U (decide (c.W=O 1)=true) (U (En.okN c 2 (Xn4.mk y2 y0 0 0)) (nN (g227 y2 (g352 (g270 c [qE y0]))) (g336 c (nN [qE y0] (g337 c (g67 c (nN (g94 [qE y2]) (U (2<=1+1) (nN (g94 (g209 [])) (g148 (g123 c (g263 (g357 (g12 zw)))))))))))))))))))))) (nN (g308 (g229 [])) (g251 fun y1=>nN [(2,.lt2 0 1 0 1)] (g166 c (g242 c y1 y0 (V.bad 410)))))):=by kernel_rfl
theorem vhN4{c:Cf}(h:okY c)(hW:c.W<=4):zad (vN4 c):=by
 have hW1:=h.1
 have hT:=h.2.2.2.1
 refine zad.pr (vN4_eq ..) ?_
 (with_reducible repeat' first|exact zk|refine zn ?_|refine zm ?_|refine zl ?_ ?_|refine zi ?_|refine nN_h rfl ?_|refine z9 ?_ ?_|intro _)
 all_goals first
  | rfl
  | exact .inl rfl
  | exact Z _
  | exact h
  | exact⟨_,Z _⟩
  | exact⟨Z _,rfl⟩
  | (constructor<;>decide)
  | (refine⟨?_,?_⟩<;>assumption)
  | ((unfold upto;constructor)<;>(split<;>exact Z _))
  | (refine⟨?_,?_⟩<;>(simp[upto];done))
  | (simp only[zz,decide_eq_true_eq,decide_eq_false_iff_not]at *;omega)
  | (exfalso;simp only[zz,decide_eq_true_eq,decide_eq_false_iff_not]at *;omega)
  | trace_state
noncomputable section
def cN4:List SV->Hp->Out (SV×Hp):=zex fun c=>.need (okY c/\c.W<=4) (psN c).out
theorem cN4_ok:zab P fN28 cN4:=zcu fun c=>zcb conN4_ok fun h=>vhN4 h.1 h.2
end
noncomputable section
def eS(c:Cf)(v:Ev):Blk:=.own 45 26 ((cfL 12 13 v.d++layL c++[.ptr 6 (.k 0) (.k 0) 0 6,.ptr 8 (.k 0) (.k 0) 0 2,slK 9 7 v.x.n v.a.r,slK 11 5 0 v.a.e]).map some)
def hEvS(c:Cf)(v:Ev):HL:=[(5,eS c v),(6,pmB 7 v.n v.a.c v.m),(7,wRow v.a.c v.n v.m),(8,clkB v.now v.dr),(9,v.x.row 10 v.a.k v.a.r),(10,v.x.fam v.x.n v.a.k),(11,evB 0 v.a.e)]++hOwn 12 v.d ++
 [(15,(eR c v).b 0 1 16 17 19),(16,wRow v.b.c v.n v.m),(17,v.x.row 18 v.b.k v.b.r),(18,v.x.fam v.x.n v.b.k),(19,evB 0 v.b.e)]
def svEvS:SV:=.t [.c (.ptr 5 (.k 0) (.k 0) 0 26),.c (.ptr 15 (.k 0) (.k 0) 0 21),.c (.kb true)]
def laMm(t:Nat)(I:XIm->Prop)(μ:XIm->Nat)(s:St):Option (LA XIm):=match pmBs 11 s,rmBs 10 s with
 | some p,some r=>some ⟨[(envM 11,true),(envC 11,true),(tmK 10,true),(renC 10,true)],fun x=>p x.m++r x.m,[t],fun x=>[iv x.i],
  fun s=>match tmI t s,rdMm s.H.h (envM 11 s) with|some i,some y=>some ⟨i,y.m⟩|_,_=>none,I,μ⟩
 | _,_=>none
def clkK(s:St):Nat:=scK (zax (tmK 11 s) 23 s.H.h)
structure XTk where
 i:Int
 now:Int
def laTk(I:Int->XTk->Prop)(s:St):Option (LA XTk):=match ceI (clkK s) 1 s.H.h,ceI (tmK 10 s) 17 s.H.h with
 | some dr,some tn=>some ⟨[(clkK,true)],fun x=>[clkB x.now dr],[15],fun x=>[iv x.i],
  fun s=>match tmI 15 s,ceI (clkK s) 0 s.H.h with|some i,some n=>some ⟨i,n⟩|_,_=>none,I tn,fun x=>(tn-x.i).toNat⟩
 | _,_=>none
def conEvS:Con:=Con.add fN28 cN4 (Con.add fRn cRn (Con.add 17 conNewR (Con.add 18 conNewNB (Con.add fRA cRA (Con.add fDi cDi (Con.add fCp cCp (Con.add fSm cSm (conU con0))))))))
theorem conEvS_ok:zaj P conEvS:=.add cN4_ok (.add cRn_ok (.add conNewR_ok (.add conNewNB_ok (.add cRA_ok (.add cDi_ok (.add cCp_ok (.add cSm_ok (conU_ok zaj.nil))))))))
def argEvS(c:Cf)(n cap nc cc:Nat):List SV:=[argC c,.c (slK 3 2 n cap),.c (slK 4 1 nc cc)]
def hIn(c:Cf)(n:Nat)(ka va:Nat->Int)(nc:Nat)(cv:Nat->Int):HL:=hC c++[(3,scV n ka va),(4,.view 1 (fun _=>nc) [.ci .i64 fun _ e=>cv e])]
def vEvS(c:Cf)(n cap:Nat)(ka va:Nat->Int)(nc cc:Nat)(cv:Nat->Int)(I1 I2:XIm->Prop)(I3:Int->XTk->Prop)(Φ:Ev->Prop):V:=verF P conEvS 6 8 fEv []
 (.loop XIm [.nilCell (tmK 10) 20 152 5 (fun _=>noEv),.nilCell (tmK 11) 25 152 5 (fun _=>noEv)] (laMm 13 I1 fun x=>ncN c-x.i.toNat) .nil
  (.loop XIm [] (laMm 14 I2 fun x=>14-x.i.toNat) .nil (.loop XTk [] (laTk I3) .nil .nil)))
 (argEvS c n cap nc cc) ⟨hIn c n ka va nc cv,5,fun _=>True⟩ (finV (X:=Ev) 5 20 rdEvs LEv Φ (fun _=>svEvS) (hEvS c))
end
abbrev g72(a0:Nat×Int)(a1:Cf)(a2:Mm)(k:V):V:=U (a0.fst<=ncN a1/\a0.fst<=ncN a1) (nN [(1,.pf (∀(i e:Nat),i=0/\e<a0.fst->a2.g e=a2.g e) (by intros;rfl))] k)
abbrev g87(l:LP):LP:=(1,.le 0 1)::(1,.pf (∀(i:Nat),i<0->0<=0) (by intros;exact Z _))::l
abbrev g91(a0:Nat×Int)(a1:Cf)(a2:XIm->Prop)(k:V):V:=zj ((↑a0.fst:Int) != (↑(ncN a1):Int)) (V.bad 412) (U (a2 (XIm.mk (O 0) (Mm.mk (fun (e:Nat)=>O 0) (O 0) (O 0) (O 0) (O 0) (O 0)))) k)
abbrev g108(a0:Cf)(a1:Nat×Int)(k:V):V:=U (ncN a0=a1.fst) (nN [qE (ncN a0)] k)
abbrev g111(a0:Cf)(k:(Cf×Nat)->V):V:=nA (fun (x:Cf×Nat)=>IsCl a0 x.fst/\a0.T.toNat<=x.snd) fun v0=>nN [(1,.pf (∃(x:Nat×Int),x=(ncN a0,lT a0)) ⟨_,rfl⟩)] (k v0)
abbrev g112(a0:Cf)(l:LP):LP:=(2,.eqI 0 0)::qE a0.T.toNat::l
abbrev g116(a0:Nat×Int)(l:LP):LP:=qE a0.fst::qE a0.fst::l
abbrev g119(a0:XIm->Prop)(a1:XIm)(a2:Mm)(k:V):V:=U (a0 (XIm.mk (i64.wrap (a1.i+O 2)) a2)) (U (14-(i64.wrap (a1.i+O 2)).toNat<14-a1.i.toNat) k)
abbrev g120(a0:Mm)(a1:Cf)(a2:XIm)(a3:Mm)(k:Mm->V):V:=nN [qX (a0.acc (ncN a1) (O 2) a2.i (a3.g (0+a2.i.toNat)))] (ze Mm (fun (m':Mm)=>m'=a0.acc (ncN a1) (O 2) a2.i (a3.g (0+a2.i.toNat))) fun v0=>k v0)
abbrev g121(a0:XIm->Prop)(a1:XIm)(a2:Mm)(a3:Cf)(k:V):V:=U (a0 (XIm.mk (i64.wrap (a1.i+O 1)) a2)) (U (ncN a3-(i64.wrap (a1.i+O 1)).toNat<ncN a3-a1.i.toNat) k)
abbrev g122(a0:Mm)(a1:Nat×Int)(a2:XIm)(a3:Mm)(k:Mm->V):V:=nN [qX (a0.acc a1.fst (O 2) a2.i (a3.g (0+a2.i.toNat)))] (ze Mm (fun (m':Mm)=>m'=a0.acc a1.fst (O 2) a2.i (a3.g (0+a2.i.toNat))) fun v0=>k v0)
abbrev g133(a0:Mm)(a1:Ee)(a2:XTk)(k:V):V:=nN (g7 a0 []) (U (a1.now=a2.now) k)
abbrev g134(a0:XIm)(a1:Cf)(k:V):V:=U (O 0<=a0.i/\a0.i<(↑(ncN a1):Int)) (U (0<1/\0+a0.i.toNat<ncN a1) (U (0<1/\0+a0.i.toNat<ncN a1) k))
abbrev g142(a0:Nat×Int)(a1:Cf)(a2:Mm)(k:V):V:=U (a0.fst<=ncN a1) (nN [qF a0.fst a2.g] k)
abbrev g161(l:LP):LP:=(1,.le 1 1)::(1,.pf (∀(i:Nat),i<1->1<=1) (by intros;exact Z _))::l
abbrev g171(a0:Cf)(a1:Mm)(k:Mm->V):V:=U (ncN a0<=1000000/\okMw (O 1000000000) a1) (nA (okMw (a1.ct+O 1)) fun v0=>k v0)
abbrev g181(a0:Cf)(k:(Nat×Int)->V):V:=ze (Nat×Int) (fun (q:Nat×Int)=>q=(ncN a0,lT a0)) fun v0=>nN [(14,.lt2 0 1 0 1)] (k v0)
abbrev g188(a0:Cf)(a1:Nat×Int)(a2:Mm)(k:V):V:=U (ncN a0<=a1.fst) (nN [(1,.pf (∀(e:Nat),e<ncN a0->a2.g e=a2.g e) (by intros;rfl))] k)
abbrev g191(a0:XIm)(a1:Nat)(k:V):V:=U (O 0<=i64.wrap (a0.i+O 1)/\i64.wrap (a0.i+O 1)<(↑a1:Int)) (U (0<1/\0+(i64.wrap (a0.i+O 1)).toNat<a1) (U (0<1/\0+(i64.wrap (a0.i+O 1)).toNat<a1) k))
abbrev g163(a0:Nat×Int)(l:LP):LP:=qE a0.fst::qL a0.fst::l
abbrev g205(a0:Nat×Int)(a1:Mm)(l:LP):LP:=g116 a0 (g7 a1 (g163 a0 (qF a0.fst a1.g::l)))
abbrev g211(a0:Nat->Int)(a1:XIm)(l:LP):LP:=qE (a0 (0+a1.i.toNat))::qE (a0 (0+(i64.wrap (a1.i+O 1)).toNat))::l
abbrev g215(a0:Cf)(a1 a2:Mm)(k:V):V:=U (ncN a0<=ncN a0) (U (∀(e:Nat),e<ncN a0->a1.g e=a2.g e) k)
abbrev g218(a0:Cf)(k:V):V:=zj ((↑a0.T.toNat:Int) != a0.T) (V.bad 412) (nN [(10,.lt2 0 1 0 1)] k)
abbrev g232(a0:Cf)(a1:Nat×Int)(k:V):V:=nN [qE (lQ a0)] (U (a1.snd=lT a0) k)
abbrev g246(a0:XIm)(a1:Mm)(l:LP):LP:=qE a0.i::qE (a1.g (0+a0.i.toNat))::l
abbrev g247(a0:Cf)(a1:Mm)(k:V):V:=nN (g88 a0 []) (U (ncN a0<=ncN a0) (nN [(1,.pf (∀(e:Nat),e<ncN a0->a1.g e=a1.g e) (by intros;rfl))] k))
abbrev g259(a0:XIm)(a1:Cf)(a2:Nat×Int)(k:V):V:=nN [qE (i64.wrap (a0.i+O 2))] (U (ncN a1=a2.fst) k)
abbrev g264(a0:Nat×Int)(l:LP):LP:=g163 a0 (qF a0.fst (fun (e:Nat)=>O 0)::l)
abbrev g267(a0:Rk)(l:LP):LP:=(12,.lt2 0 1 0 1)::qE a0.n::l
abbrev g268(a0:Rk)(a1:Nat×(Nat->Nat))(l:LP):LP:=qE a0.n::qE a1.fst::(2,.eq 0 0)::l
abbrev g288(a0:Rk)(l:LP):LP:=(6,.lt2 0 1 0 1)::qE a0.n::l
abbrev g290(a0:XIm)(a1:Nat)(k:V):V:=U (O 0<=a0.i/\a0.i<(↑a1:Int)) (U (0<1/\0+a0.i.toNat<a1) (U (0<1/\0+a0.i.toNat<a1) k))
abbrev g295(a0:XIm->Prop)(a1:Mm)(k:V):V:=U (a0 (XIm.mk (O 0) a1)) (nN [(1,.eqI 0 0)] k)
abbrev g296(a0:Int->XTk->Prop)(a1:Ee)(a2:XTk)(k:V):V:=nN [(3,.lt2 0 1 0 1)] (U (a0 a1.now (XTk.mk (i64.wrap (a2.i+O 1)) (i64.wrap (a2.now+O 1)))) (U ((a1.now-i64.wrap (a2.i+O 1)).toNat<(a1.now-a2.i).toNat) k))
abbrev g297(a0:XTk)(l:LP):LP:=qE (i64.wrap (a0.i+O 1))::qE (i64.wrap (a0.now+O 1))::(1,.eqI 0 0)::l
abbrev g300(a0:Cf)(k:V):V:=nN (g71 a0 []) (U (errE a0=O 0) k)
abbrev g301(a0:Cf)(a1:Mm)(l:LP):LP:=g136 a0 (g7 a1 (g112 a0 l))
abbrev g140(a0:Rk)(l:LP):LP:=(1,.pf (∀(i e:Nat),i=0/\e<a0.n->a0.p e=a0.p e) (by intros;rfl))::(1,.pf (∀(i e:Nat),i=0/\e<a0.n->a0.pa e=a0.pa e) (by intros;rfl))::(1,.pf (∀(i e:Nat),i=0/\e<a0.n->a0.pc e=a0.pc e) (by intros;rfl))::(1,.pf (∀(i e:Nat),i=0/\e<a0.n->a0.lf e=a0.lf e) (by intros;rfl))::(1,.pf (∀(i e:Nat),i=0/\e<a0.n->a0.wt e=a0.wt e) (by intros;rfl))::(1,.pf (∀(i e:Nat),i=0/\e<a0.n->e=e) (by intros;rfl))::(1,.pf (∀(i e:Nat),i=0/\e<a0.n->a0.kl e=a0.kl e) (by intros;rfl))::l
abbrev g302(a0:Rk)(a1:Nat×(Nat->Nat))(k:V):V:=nN [(1,.le 1 1)] (U (a0.n<=a0.n/\a0.n<=a1.fst) (nN (g140 a0 [(1,.pf (∀(i e:Nat),i=0/\e<a0.n->a1.snd e=a1.snd e) (by intros;rfl)),(1,.pf (∀(i e:Nat),i=0/\e<a0.n->a0.st e=a0.st e) (by intros;rfl)),(1,.le 1 1),(1,.le2 0 0 0 0),(5,.pf (∀(i e:Nat),i=0/\e<0->O 0=O 0) (by intros;rfl))]) k))
abbrev g36(l:LP):LP:=qF 0 (fun (e:Nat)=>O 0)::qF 0 (fun (e:Nat)=>O 0)::l
abbrev g303(a0:Nat×(Nat->Nat))(a1:Rk)(k:V):V:=nN (qE a0.fst::g33 a1 [qF a1.n a0.snd,qF a1.n a1.st]) (U (∀(i:Nat),a0.snd i=a0.snd i\/a0.snd i=0) (U (∀(i:Nat),upto a1.n a1.kl i<=a0.snd i/\upto a1.n a1.kl i<=upto a1.n a1.kl i) (nN ((1,.pf (∀(i e:Nat),e<upto a1.n a1.kl i->a1.kd i e=a1.kd i e) (by intros;rfl))::g94 (g36 (g36 [qF 0 (fun (e:Nat)=>O 0)]))) k)))
abbrev g305(a0 a1:Mm)(k:V):V:=U (a0.lk=a1.lk) (U (a0.lc=a1.lc) k)
abbrev g306(a0:Cf)(k:V):V:=nN [qE a0.rc,qL a0.nP,qF a0.nP (fun (e:Nat)=>e),qF a0.nP a0.lenP,qF a0.nP a0.FC,qE a0.cu,qL a0.nU,qF a0.nU a0.uP,qF a0.nU a0.uL,qF a0.nU a0.uD] (U (∀(i:Nat),gd a0.nP a0.FC i=gd a0.nP a0.FC i\/gd a0.nP a0.FC i=0) (U (∀(i:Nat),gd a0.nP a0.lenP i<=gd a0.nP a0.FC i/\gd a0.nP a0.lenP i<=gd a0.nP a0.lenP i) (nN [(1,.pf (∀(i e:Nat),e<gd a0.nP a0.lenP i->a0.iO i e=a0.iO i e) (by intros;rfl)),(1,.pf (∀(i e:Nat),e<gd a0.nP a0.lenP i->a0.iA i e=a0.iA i e) (by intros;rfl)),(1,.pf (∀(i e:Nat),e<gd a0.nP a0.lenP i->a0.iB i e=a0.iB i e) (by intros;rfl))] k)))
abbrev g314(a0:Cf)(l:LP):LP:=qE a0.W::g313 a0 (qE a0.T::qE a0.D::qE a0.H::l)
abbrev g316(a0:XIm)(a1:Nat×Int)(a2:Mm)(l:LP):LP:=qE (i64.wrap (a0.i+O 1))::g205 a1 a2 l
abbrev g329(a0:Rk)(a1:Nat×(Nat->Nat))(l:LP):LP:=g268 a0 a1 ((1,.le 1 1)::l)
abbrev g335(a0:Rk)(a1:Xn4)(k:V):V:=nN [(1,.le 1 1)] (U (a0.n<=a0.n/\a0.n<=a1.rc) (nN (g140 a0 []) k))
abbrev g226(a0:Rk)(a1:Ee)(k:(Nat×(Nat->Nat))->V):V:=U (∀(i:Nat),i<a0.n->a0.kl i<=upto a0.n a0.kl i/\a0.kl i<=a1.kc i) (nN [(1,.pf (∀(i e:Nat),i<a0.n/\e<a0.kl i->a0.kd i e=a0.kd i e) (by intros;rfl))] (U (okRk a0) (nA (fun (q:Nat×(Nat->Nat))=>a0.n<=q.fst/\∀(e:Nat),e<a0.n->a0.kl e<=q.snd e) fun v0=>k v0)))
abbrev g343(a0:Rk)(a1:Ee)(k:(Nat×(Nat->Nat))->V):V:=nN [(1,.le 1 1),(1,.pf (∀(i:Nat),i<1->a0.n<=a0.n) (by intros;exact Z _)),(1,.pf (∀(i e:Nat),i<1/\e<a0.n->a0.p e=a0.p e) (by intros;rfl)),(1,.pf (∀(i e:Nat),i<1/\e<a0.n->a0.pa e=a0.pa e) (by intros;rfl)),(1,.pf (∀(i e:Nat),i<1/\e<a0.n->a0.pc e=a0.pc e) (by intros;rfl)),(1,.pf (∀(i e:Nat),i<1/\e<a0.n->a0.lf e=a0.lf e) (by intros;rfl)),(1,.pf (∀(i e:Nat),i<1/\e<a0.n->a0.wt e=a0.wt e) (by intros;rfl)),(1,.pf (∀(i e:Nat),i<1/\e<a0.n->e=e) (by intros;rfl)),(1,.pf (∀(i e:Nat),i<1/\e<a0.n->a0.kl e=a0.kl e) (by intros;rfl)),(1,.pf (∀(i e:Nat),i<1/\e<a0.n->a1.kc e=a1.kc e) (by intros;rfl)),(1,.pf (∀(i e:Nat),i<1/\e<a0.n->a0.st e=a0.st e) (by intros;rfl))] (g226 a0 a1 fun v0=>k v0)
abbrev g344(a0:Rk)(a1:Ee)(k:(Nat×(Nat->Nat))->V):V:=nN [(1,.pf (∀(i e:Nat),i=0/\e<a0.n->a1.kc e=a1.kc e) (by intros;rfl)),(1,.pf (∀(i e:Nat),i=0/\e<a0.n->a0.st e=a0.st e) (by intros;rfl))] (g226 a0 a1 fun v0=>nN ((4,.lt2 0 1 0 1)::g268 a0 v0 []) (k v0))
abbrev g350(a0:Int->XTk->Prop)(a1:Ee)(k:XTk->V):V:=nN [(16,.lt2 0 1 0 1)] (U (a0 a1.now (XTk.mk (O 0) (O 0))) (nN [(3,.eqI 0 0)] (ze XTk (a0 a1.now) fun v0=>nN [(3,.lt2 0 1 0 1)] (k v0))))
abbrev g24(a0:Rk)(a1:Nat×(Nat->Nat))(k:V):V:=U (∀(i:Nat),i<a0.n->a0.kl i<=upto a0.n a0.kl i/\a0.kl i<=a1.snd i) (nN [(1,.pf (∀(i e:Nat),i<a0.n/\e<a0.kl i->a0.kd i e=a0.kd i e) (by intros;rfl))] k)
abbrev g354(a0:Rk)(a1 a2:Nat×(Nat->Nat))(k:V):V:=g302 a0 a1 (g24 a0 a2 (g24 a0 a1 k))
abbrev g360(a0:Cf)(k:V):V:=g64 a0 (nN [(1,.le 0 1)] (U (∀(i:Nat),i<0->0<=a0.T.toNat) k))
abbrev g361(a0:Cf)(l:LP):LP:=g314 a0 (qE (lS a0)::qE (lE a0)::qE (lB a0)::l)
abbrev g365(a0 a1:Mm)(k:V):V:=U (a0.lo=a1.lo) (U (a0.ln=a1.ln) (U (a0.ct=a1.ct) k))
abbrev g373(a0:Nat×Int)(a1:Mm)(k:V):V:=nN (g116 a0 (g7 a1 [(1,.le 1 1)])) (U (a0.fst<=a0.fst/\a0.fst<=a0.fst) (nN [(1,.pf (∀(i e:Nat),i=0/\e<a0.fst->a1.g e=a1.g e) (by intros;rfl))] k))
abbrev g375(a0:Cf)(k:Ee->V):V:=nA (okEe 900000 a0) fun v0=>nN (g19 a0 []) (k v0)
abbrev g30(a0:Nat×Int)(a1:Mm)(a2:XTk)(a3:Rk)(a4:Ev->Prop)(a5 a6:Cf)(a7:Ee)(a8 a9:Nat×(Nat->Nat))(k:V):V:=U (okCm (Cm.mk a0.fst a1 a2.now a3 0 (Evs.mk (fun (i:Nat)=>O 0) (fun (i:Nat)=>O 0) (fun (i:Nat)=>O 0) (fun (i:Nat)=>O 0) fun (i:Nat)=>O 0))) (U (a4 (Ev.mk { a5 with W:=a6.W,L:=a6.L,C:=a6.C,T:=a6.T,D:=a6.D,H:=a6.H,B:=a6.B,A:=a6.A,P:=a6.P } a0.fst a1 a3 a2.now a7.dr (Rm.mk a0.fst a8.fst a8.snd 0) (Rm.mk (ncN a6) a9.fst a9.snd 0))) k)
abbrev gs0(c:Cf)(I1 I2:XIm->Prop)(nc:Nat)(cv:Nat->Int)(I3:Int->XTk->Prop)(y0:Xn4)(Φ:Ev->Prop):V:=g375 c fun y1=>nN (g71 c []) (g197 c fun y2=>nN (g19 c []) (g300 c (g111 c fun y3=>g181 c fun y4=>g218 c (g91 y4 c I1 (nN ((1,.eqI 0 0)::g116 y4 ((5,.eqI 0 0)::g264 y4 (g270 c [qE y2]))) (g336 c (ze XIm I1 fun y5=>zj (decide (y5.i<(↑(ncN c):Int))) (nN [(9,.lt2 0 1 0 1)] (g134 y5 c (nN (g246 y5 y1.m ((1,.eqI 0 0)::g301 c y5.m [qE y2])) (g247 c y5.m (g360 c (nN (g87 []) (g120 y5.m c y5 y1.m fun y6=>nN [(10,.lt2 0 1 0 1)] (g134 y5 c (nN (g246 y5 y1.m (g205 y4 y5.m [])) (g122 y5.m y4 y5 y1.m fun y7=>g121 I1 y5 y7 c (nN (g316 y5 y4 y7 (g136 c [])) (g305 y6 y7 (g365 y6 y7 (nN (g112 c (qE y2::g88 c [])) (g215 c y6 y7 zw))))))))))))))) (g295 I2 y5.m (nN (g205 y4 y5.m (g301 c y5.m [qE y2])) (g247 c y5.m (ze XIm I2 fun y6=>zj (decide (i64.wrap (y6.i+O 1)<(↑nc:Int))) (zj (decide (y6.i<O 12)) (g290 y6 nc (g191 y6 nc (nN (g211 cv y6 (g161 [])) (U (y4.fst=ncN c) (nN (qE y4.fst::g7 y6.m [qE y4.fst]) (g188 c y4 y6.m (nN (g301 c y6.m [qE y2]) (g247 c y6.m (g360 c (nN (g87 []) (g171 c y6.m fun y7=>g119 I2 y6 y7 (g259 y6 c y4 (nN (qE y4.fst::g7 y7 [qE y4.fst]) (g142 y4 c y7 (nN (g301 c y7 [qE y2]) (g247 c y7 zw)))))))))))))))) (g350 I3 y1 fun y7=>zj (decide (y7.i<y1.now)) (g296 I3 y1 y7 (nN (g297 y7 []) zw)) (nN (g267 y1.x [qE y0.rc]) (g343 y1.x y1 fun y8=>nN (g288 y1.x [qE y0.rc]) (g335 y1.x y0 (g344 y1.x y1 fun y9=>g373 y4 y6.m (nN [qE y7.now] (g302 y1.x y9 (g108 c y4 (g133 y6.m y1 y7 (nN (g329 y1.x y8 []) (g72 y4 c y6.m (g354 y1.x y8 y9 (g30 y4 y6.m y7 y1.x Φ y3.fst c y1 y9 y8 (nN (g314 c (qE c.B::qE c.A::qE c.P::g14 y3.fst (g361 c []))) (g232 c y4 (nN (g268 y1.x y9 (g205 y4 y6.m [qE y7.now,qE y1.dr])) (g303 y9 y1.x (g306 y3.fst (nN (g19 c []) (g108 c y4 (g133 y6.m y1 y7 (nN (qE y1.dr::qE y1.x.n::qE y8.fst::g88 c []) (g142 y4 c y6.m (g303 y8 y1.x zw))))))))))))))))))))))))) (g350 I3 y1 fun y7=>zj (decide (y7.i<y1.now)) (g296 I3 y1 y7 (nN (g297 y7 []) zw)) (nN (g267 y1.x [qE y0.rc]) (g343 y1.x y1 fun y8=>nN (g288 y1.x [qE y0.rc]) (g335 y1.x y0 (g344 y1.x y1 fun y9=>g373 y4 y6.m (nN [qE y7.now] (g302 y1.x y9 (g108 c y4 (g133 y6.m y1 y7 (nN (g329 y1.x y8 []) (g72 y4 c y6.m (g354 y1.x y8 y9 (g30 y4 y6.m y7 y1.x Φ y3.fst c y1 y9 y8 (nN (g314 c (qE c.B::qE c.A::qE c.P::g14 y3.fst (g361 c []))) (g232 c y4 (nN (g268 y1.x y9 (g205 y4 y6.m [qE y7.now,qE y1.dr])) (g303 y9 y1.x (g306 y3.fst (nN (g19 c []) (g108 c y4 (g133 y6.m y1 y7 (nN (qE y1.dr::qE y1.x.n::qE y8.fst::g88 c []) (g142 y4 c y6.m (g303 y8 y1.x zw)))))))))))))))))))))))))))))))))))
abbrev g74(a0:Cf)(k:V):V:=U (∀(i:Nat),upto a0.T.toNat (fun (i:Nat)=>0) i<=0/\upto a0.T.toNat (fun (i:Nat)=>0) i<=upto a0.T.toNat (fun (x:Nat)=>0) i) (nN [(1,.pf (∀(i e:Nat),e<upto a0.T.toNat (fun (i:Nat)=>0) i->O 0=O 0) (by intros;rfl))] k)
abbrev g204(a0:Nat)(a1 a2:Nat->Int)(l:LP):LP:=(1,.pf (∀(i:Nat),i<1->a0<=a0) (by intros;exact Z _))::(1,.pf (∀(i e:Nat),i<1/\e<a0->a1 e=a1 e) (by intros;rfl))::(1,.pf (∀(i e:Nat),i<1/\e<a0->a2 e=a2 e) (by intros;rfl))::l
abbrev g245(a0:Cf)(l:LP):LP:=g59 (qF 1 (fun (e:Nat)=>(↑0:Int).tmod a0.T)::l)
abbrev g248(l:LP):LP:=g92 (qF 1 (fun (e:Nat)=>(↑0:Int))::l)
abbrev g317(l:LP):LP:=g92 (qF 1 (fun (e:Nat)=>(↑1:Int))::l)
abbrev g22(k:V):V:=U (∀(i:Nat),upto 1 (fun (e:Nat)=>0) i<=0/\upto 1 (fun (e:Nat)=>0) i<=upto 1 (fun (x:Nat)=>0) i) (nN [(1,.pf (∀(i e:Nat),e<upto 1 (fun (e:Nat)=>0) i->O 0=O 0) (by intros;rfl))] k)
abbrev g325(k:V):V:=g203 (g22 k)
abbrev g327(a0:Cf)(l:LP):LP:=g59 (qF 1 (fun (e:Nat)=>(↑1:Int).tmod a0.T)::l)
abbrev g359(l:LP):LP:=(1,.eqI 0 0)::(1,.eq 0 0)::l
theorem vEvS_eq(c:Cf)(n cap:Nat)(ka va:Nat->Int)(nc cc:Nat)(cv:Nat->Int)(I1 I2:XIm->Prop)(I3:Int->XTk->Prop)(Φ:Ev->Prop):V.pr .z (vEvS c n cap ka va nc cc cv I1 I2 I3 Φ)=
 nN (g19 c (g71 c [])) (U (okY c/\c.W<=O 4) (zj (decide (c.W=O 1)) (nA (En.okN c 2) fun y0=>nN (qE n::qE cap::g270 c [qE y0.rc,(1,.eq 0 0),qE y0.ec,qE (ncN c)]) (g58 c (nN [qE y0.rc] (g337 c (g74 c (nN (qE y0.ec::(1,.le 0 0)::(1,.eq 2 2)::qE y0.cm::g359 (qE y0.sc::(4,.eqI 0 0)::qE y0.sc::(1,.le 0 0)::g209 (g248 (g245 c [])))) (g325 (g357 (g22 (nN [(1,.le 1 1)] (U (2<=2/\2<=y0.cm) (nN ((1,.le 1 1)::g204 n ka va (g71 c [])) (U (zc7 c 2 n (Ee.mk (Mm.mk (fun (e:Nat)=>O 0) (O 0) (O 0) (O 0) (O 0) (O 0)) (O 0) (O 0) (Rk.mk c.T.toNat (fun (i:Nat)=>O 0) (fun (i:Nat)=>-O 1) (fun (i:Nat)=>O 0) (fun (i:Nat)=>O 0) (fun (i:Nat)=>-O 1) (fun (i:Nat)=>0) (fun (i j:Nat)=>O 0) fun (i:Nat)=>false) (fun (i:Nat)=>0) 0 y0.ec (O 0) 0 y0.sc (O 0) (O 0) (O 0) (O 0)) (M5.mk (Ma.mk (Fk.mk (fun (e:Nat)=>O 25) (fun (e:Nat)=>O 1) (fun (e:Nat)=>O 0) (fun (e:Nat)=>O 0) (fun (e:Nat)=>O 0) (fun (e:Nat)=>O 0) (fun (e:Nat)=>(↑0:Int)) (fun (e:Nat)=>O 0) (fun (e:Nat)=>O 0) (fun (e:Nat)=>O 0) (fun (e:Nat)=>(↑0:Int).tmod c.T) (fun (e:Nat)=>O 0) (fun (e:Nat)=>O 0) (fun (e:Nat)=>O 0) (fun (e:Nat)=>O 0) (fun (e:Nat)=>O 0) (fun (e:Nat)=>O 0) (fun (e:Nat)=>0) (fun (e:Nat)=>0) fun (i e:Nat)=>O 0) (Mp.mk 1 1 false (O 0) (O 0))) (Ma.mk (Fk.mk (fun (e:Nat)=>O 26) (fun (e:Nat)=>O 1) (fun (e:Nat)=>O 0) (fun (e:Nat)=>O 0) (fun (e:Nat)=>O 0) (fun (e:Nat)=>O 0) (fun (e:Nat)=>O 0) (fun (e:Nat)=>O 0) (fun (e:Nat)=>O 0) (fun (e:Nat)=>O 0) (fun (e:Nat)=>O 0) (fun (e:Nat)=>O 0) (fun (e:Nat)=>O 0) (fun (e:Nat)=>O 0) (fun (e:Nat)=>O 0) (fun (e:Nat)=>O 0) (fun (e:Nat)=>O 0) (fun (e:Nat)=>0) (fun (e:Nat)=>0) fun (i e:Nat)=>O 0) (Mp.mk 1 1 false (O 0) (O 0))) ma0 ma0 ma0)) (gs0 c I1 I2 nc cv I3 y0 Φ)))))))))))))) (zj (decide (c.W=O 2)) (nA (En.okN c 3) fun y0=>nN (qE n::qE cap::g270 c [qE y0.rc,(1,.eq 0 0),qE y0.ec,qE (ncN c)]) (g58 c (nN [qE y0.rc] (g337 c (g74 c (nN (qE y0.ec::(1,.le 0 0)::(1,.eq 3 3)::qE y0.cm::g359 (qE y0.sc::(4,.eqI 0 0)::qE y0.sc::(1,.le 0 0)::g209 (g248 (g245 c [])))) (g325 (nN (g209 (g317 (g327 c []))) (g325 (g357 (g22 (nN [(1,.le 1 1)] (U (3<=3/\3<=y0.cm) (nN ((1,.le 1 1)::g204 n ka va (g71 c [])) (U (zc7 c 3 n (Ee.mk (Mm.mk (fun (e:Nat)=>O 0) (O 0) (O 0) (O 0) (O 0) (O 0)) (O 0) (O 0) (Rk.mk c.T.toNat (fun (i:Nat)=>O 0) (fun (i:Nat)=>-O 1) (fun (i:Nat)=>O 0) (fun (i:Nat)=>O 0) (fun (i:Nat)=>-O 1) (fun (i:Nat)=>0) (fun (i j:Nat)=>O 0) fun (i:Nat)=>false) (fun (i:Nat)=>0) 0 y0.ec (O 0) 0 y0.sc (O 0) (O 0) (O 0) (O 0)) (M5.mk (Ma.mk (Fk.mk (fun (e:Nat)=>O 25) (fun (e:Nat)=>O 1) (fun (e:Nat)=>O 0) (fun (e:Nat)=>O 0) (fun (e:Nat)=>O 0) (fun (e:Nat)=>O 0) (fun (e:Nat)=>(↑0:Int)) (fun (e:Nat)=>O 0) (fun (e:Nat)=>O 0) (fun (e:Nat)=>O 0) (fun (e:Nat)=>(↑0:Int).tmod c.T) (fun (e:Nat)=>O 0) (fun (e:Nat)=>O 0) (fun (e:Nat)=>O 0) (fun (e:Nat)=>O 0) (fun (e:Nat)=>O 0) (fun (e:Nat)=>O 0) (fun (e:Nat)=>0) (fun (e:Nat)=>0) fun (i e:Nat)=>O 0) (Mp.mk 1 1 false (O 0) (O 0))) (Ma.mk (Fk.mk (fun (e:Nat)=>O 25) (fun (e:Nat)=>O 1) (fun (e:Nat)=>O 0) (fun (e:Nat)=>O 0) (fun (e:Nat)=>O 0) (fun (e:Nat)=>O 0) (fun (e:Nat)=>(↑1:Int)) (fun (e:Nat)=>O 0) (fun (e:Nat)=>O 0) (fun (e:Nat)=>O 0) (fun (e:Nat)=>(↑1:Int).tmod c.T) (fun (e:Nat)=>O 0) (fun (e:Nat)=>O 0) (fun (e:Nat)=>O 0) (fun (e:Nat)=>O 0) (fun (e:Nat)=>O 0) (fun (e:Nat)=>O 0) (fun (e:Nat)=>0) (fun (e:Nat)=>0) fun (i e:Nat)=>O 0) (Mp.mk 1 1 false (O 0) (O 0))) (Ma.mk (Fk.mk (fun (e:Nat)=>O 26) (fun (e:Nat)=>O 1) (fun (e:Nat)=>O 0) (fun (e:Nat)=>O 0) (fun (e:Nat)=>O 0) (fun (e:Nat)=>O 0) (fun (e:Nat)=>O 0) (fun (e:Nat)=>O 0) (fun (e:Nat)=>O 0) (fun (e:Nat)=>O 0) (fun (e:Nat)=>O 0) (fun (e:Nat)=>O 0) (fun (e:Nat)=>O 0) (fun (e:Nat)=>O 0) (fun (e:Nat)=>O 0) (fun (e:Nat)=>O 0) (fun (e:Nat)=>O 0) (fun (e:Nat)=>0) (fun (e:Nat)=>0) fun (i e:Nat)=>O 0) (Mp.mk 1 1 false (O 0) (O 0))) ma0 ma0)) (gs0 c I1 I2 nc cv I3 y0 Φ)))))))))))))))) (zj (decide (c.W=O 3)) (nA (En.okN c 4) fun y0=>nN (qE n::qE cap::g270 c [qE y0.rc,(1,.eq 0 0),qE y0.ec,qE (ncN c)]) (g58 c (nN [qE y0.rc] (g337 c (g74 c (nN (qE y0.ec::(1,.le 0 0)::(1,.eq 4 4)::qE y0.cm::g359 (qE y0.sc::(4,.eqI 0 0)::qE y0.sc::(1,.le 0 0)::g209 (g248 (g245 c [])))) (g325 (nN (g209 (g317 (g327 c []))) (g325 (nN (g209 (g92 (qF 1 (fun (e:Nat)=>(↑2:Int))::g59 [qF 1 (fun (e:Nat)=>(↑2:Int).tmod c.T)]))) (g325 (g357 (g22 (nN [(1,.le 1 1)] (U (4<=4/\4<=y0.cm) (nN ((1,.le 1 1)::g204 n ka va (g71 c [])) (U (zc7 c 4 n (Ee.mk (Mm.mk (fun (e:Nat)=>O 0) (O 0) (O 0) (O 0) (O 0) (O 0)) (O 0) (O 0) (Rk.mk c.T.toNat (fun (i:Nat)=>O 0) (fun (i:Nat)=>-O 1) (fun (i:Nat)=>O 0) (fun (i:Nat)=>O 0) (fun (i:Nat)=>-O 1) (fun (i:Nat)=>0) (fun (i j:Nat)=>O 0) fun (i:Nat)=>false) (fun (i:Nat)=>0) 0 y0.ec (O 0) 0 y0.sc (O 0) (O 0) (O 0) (O 0)) (M5.mk (Ma.mk (Fk.mk (fun (e:Nat)=>O 25) (fun (e:Nat)=>O 1) (fun (e:Nat)=>O 0) (fun (e:Nat)=>O 0) (fun (e:Nat)=>O 0) (fun (e:Nat)=>O 0) (fun (e:Nat)=>(↑0:Int)) (fun (e:Nat)=>O 0) (fun (e:Nat)=>O 0) (fun (e:Nat)=>O 0) (fun (e:Nat)=>(↑0:Int).tmod c.T) (fun (e:Nat)=>O 0) (fun (e:Nat)=>O 0) (fun (e:Nat)=>O 0) (fun (e:Nat)=>O 0) (fun (e:Nat)=>O 0) (fun (e:Nat)=>O 0) (fun (e:Nat)=>0) (fun (e:Nat)=>0) fun (i e:Nat)=>O 0) (Mp.mk 1 1 false (O 0) (O 0))) (Ma.mk (Fk.mk (fun (e:Nat)=>O 25) (fun (e:Nat)=>O 1) (fun (e:Nat)=>O 0) (fun (e:Nat)=>O 0) (fun (e:Nat)=>O 0) (fun (e:Nat)=>O 0) (fun (e:Nat)=>(↑1:Int)) (fun (e:Nat)=>O 0) (fun (e:Nat)=>O 0) (fun (e:Nat)=>O 0) (fun (e:Nat)=>(↑1:Int).tmod c.T) (fun (e:Nat)=>O 0) (fun (e:Nat)=>O 0) (fun (e:Nat)=>O 0) (fun (e:Nat)=>O 0) (fun (e:Nat)=>O 0) (fun (e:Nat)=>O 0) (fun (e:Nat)=>0) (fun (e:Nat)=>0) fun (i e:Nat)=>O 0) (Mp.mk 1 1 false (O 0) (O 0))) (Ma.mk (Fk.mk (fun (e:Nat)=>O 25) (fun (e:Nat)=>O 1) (fun (e:Nat)=>O 0) (fun (e:Nat)=>O 0) (fun (e:Nat)=>O 0) (fun (e:Nat)=>O 0) (fun (e:Nat)=>(↑2:Int)) (fun (e:Nat)=>O 0) (fun (e:Nat)=>O 0) (fun (e:Nat)=>O 0) (fun (e:Nat)=>(↑2:Int).tmod c.T) (fun (e:Nat)=>O 0) (fun (e:Nat)=>O 0) (fun (e:Nat)=>O 0) (fun (e:Nat)=>O 0) (fun (e:Nat)=>O 0) (fun (e:Nat)=>O 0) (fun (e:Nat)=>0) (fun (e:Nat)=>0) fun (i e:Nat)=>O 0) (Mp.mk 1 1 false (O 0) (O 0))) (Ma.mk (Fk.mk (fun (e:Nat)=>O 26) (fun (e:Nat)=>O 1) (fun (e:Nat)=>O 0) (fun (e:Nat)=>O 0) (fun (e:Nat)=>O 0) (fun (e:Nat)=>O 0) (fun (e:Nat)=>O 0) (fun (e:Nat)=>O 0) (fun (e:Nat)=>O 0) (fun (e:Nat)=>O 0) (fun (e:Nat)=>O 0) (fun (e:Nat)=>O 0) (fun (e:Nat)=>O 0) (fun (e:Nat)=>O 0) (fun (e:Nat)=>O 0) (fun (e:Nat)=>O 0) (fun (e:Nat)=>O 0) (fun (e:Nat)=>0) (fun (e:Nat)=>0) fun (i e:Nat)=>O 0) (Mp.mk 1 1 false (O 0) (O 0))) ma0)) (gs0 c I1 I2 nc cv I3 y0 Φ)))))))))))))))))) (nA (En.okN c 5) fun y0=>nN (qE n::qE cap::g270 c [qE y0.rc,(1,.eq 0 0),qE y0.ec,qE (ncN c)]) (g58 c (nN [qE y0.rc] (g337 c (g74 c (nN (qE y0.ec::(1,.le 0 0)::(1,.eq 5 5)::qE y0.cm::g359 (qE y0.sc::(4,.eqI 0 0)::qE y0.sc::(1,.le 0 0)::g209 (g248 (g245 c [])))) (g325 (nN (g209 (g317 (g327 c []))) (g325 (nN (g209 (g92 (qF 1 (fun (e:Nat)=>(↑2:Int))::g59 [qF 1 (fun (e:Nat)=>(↑2:Int).tmod c.T)]))) (g325 (nN (g209 (g92 (qF 1 (fun (e:Nat)=>(↑3:Int))::g59 [qF 1 (fun (e:Nat)=>(↑3:Int).tmod c.T)]))) (g325 (g357 (g22 (nN [(1,.le 1 1)] (U (5<=5/\5<=y0.cm) (nN ((1,.le 1 1)::g204 n ka va (g71 c [])) (U (zc7 c 5 n (Ee.mk (Mm.mk (fun (e:Nat)=>O 0) (O 0) (O 0) (O 0) (O 0) (O 0)) (O 0) (O 0) (Rk.mk c.T.toNat (fun (i:Nat)=>O 0) (fun (i:Nat)=>-O 1) (fun (i:Nat)=>O 0) (fun (i:Nat)=>O 0) (fun (i:Nat)=>-O 1) (fun (i:Nat)=>0) (fun (i j:Nat)=>O 0) fun (i:Nat)=>false) (fun (i:Nat)=>0) 0 y0.ec (O 0) 0 y0.sc (O 0) (O 0) (O 0) (O 0)) (M5.mk (Ma.mk (Fk.mk (fun (e:Nat)=>O 25) (fun (e:Nat)=>O 1) (fun (e:Nat)=>O 0) (fun (e:Nat)=>O 0) (fun (e:Nat)=>O 0) (fun (e:Nat)=>O 0) (fun (e:Nat)=>(↑0:Int)) (fun (e:Nat)=>O 0) (fun (e:Nat)=>O 0) (fun (e:Nat)=>O 0) (fun (e:Nat)=>(↑0:Int).tmod c.T) (fun (e:Nat)=>O 0) (fun (e:Nat)=>O 0) (fun (e:Nat)=>O 0) (fun (e:Nat)=>O 0) (fun (e:Nat)=>O 0) (fun (e:Nat)=>O 0) (fun (e:Nat)=>0) (fun (e:Nat)=>0) fun (i e:Nat)=>O 0) (Mp.mk 1 1 false (O 0) (O 0))) (Ma.mk (Fk.mk (fun (e:Nat)=>O 25) (fun (e:Nat)=>O 1) (fun (e:Nat)=>O 0) (fun (e:Nat)=>O 0) (fun (e:Nat)=>O 0) (fun (e:Nat)=>O 0) (fun (e:Nat)=>(↑1:Int)) (fun (e:Nat)=>O 0) (fun (e:Nat)=>O 0) (fun (e:Nat)=>O 0) (fun (e:Nat)=>(↑1:Int).tmod c.T) (fun (e:Nat)=>O 0) (fun (e:Nat)=>O 0) (fun (e:Nat)=>O 0) (fun (e:Nat)=>O 0) (fun (e:Nat)=>O 0) (fun (e:Nat)=>O 0) (fun (e:Nat)=>0) (fun (e:Nat)=>0) fun (i e:Nat)=>O 0) (Mp.mk 1 1 false (O 0) (O 0))) (Ma.mk (Fk.mk (fun (e:Nat)=>O 25) (fun (e:Nat)=>O 1) (fun (e:Nat)=>O 0) (fun (e:Nat)=>O 0) (fun (e:Nat)=>O 0) (fun (e:Nat)=>O 0) (fun (e:Nat)=>(↑2:Int)) (fun (e:Nat)=>O 0) (fun (e:Nat)=>O 0) (fun (e:Nat)=>O 0) (fun (e:Nat)=>(↑2:Int).tmod c.T) (fun (e:Nat)=>O 0) (fun (e:Nat)=>O 0) (fun (e:Nat)=>O 0) (fun (e:Nat)=>O 0) (fun (e:Nat)=>O 0) (fun (e:Nat)=>O 0) (fun (e:Nat)=>0) (fun (e:Nat)=>0) fun (i e:Nat)=>O 0) (Mp.mk 1 1 false (O 0) (O 0))) (Ma.mk (Fk.mk (fun (e:Nat)=>O 25) (fun (e:Nat)=>O 1) (fun (e:Nat)=>O 0) (fun (e:Nat)=>O 0) (fun (e:Nat)=>O 0) (fun (e:Nat)=>O 0) (fun (e:Nat)=>(↑3:Int)) (fun (e:Nat)=>O 0) (fun (e:Nat)=>O 0) (fun (e:Nat)=>O 0) (fun (e:Nat)=>(↑3:Int).tmod c.T) (fun (e:Nat)=>O 0) (fun (e:Nat)=>O 0) (fun (e:Nat)=>O 0) (fun (e:Nat)=>O 0) (fun (e:Nat)=>O 0) (fun (e:Nat)=>O 0) (fun (e:Nat)=>0) (fun (e:Nat)=>0) fun (i e:Nat)=>O 0) (Mp.mk 1 1 false (O 0) (O 0))) (Ma.mk (Fk.mk (fun (e:Nat)=>O 26) (fun (e:Nat)=>O 1) (fun (e:Nat)=>O 0) (fun (e:Nat)=>O 0) (fun (e:Nat)=>O 0) (fun (e:Nat)=>O 0) (fun (e:Nat)=>O 0) (fun (e:Nat)=>O 0) (fun (e:Nat)=>O 0) (fun (e:Nat)=>O 0) (fun (e:Nat)=>O 0) (fun (e:Nat)=>O 0) (fun (e:Nat)=>O 0) (fun (e:Nat)=>O 0) (fun (e:Nat)=>O 0) (fun (e:Nat)=>O 0) (fun (e:Nat)=>O 0) (fun (e:Nat)=>0) (fun (e:Nat)=>0) fun (i e:Nat)=>O 0) (Mp.mk 1 1 false (O 0) (O 0))))) (gs0 c I1 I2 nc cv I3 y0 Φ)))))))))))))))))))))))):=by kernel_rfl
def IE1(c:Cf)(x:XIm):Prop:=0<=x.i/\x.i<=(ncN c:Int)/\okMw x.i x.m
def IE2(x:XIm):Prop:=0<=x.i/\x.i<=14/\okMw (200000+x.i) x.m
def IE3(tn:Int)(x:XTk):Prop:=0<=x.i/\x.i<=tn/\x.now=x.i
section
variable {c d:Cf} {y:Ee} {x:XIm} {t:XTk} {k nc:Nat} {q:Xn4} {m:Mm} {r:Nat×(Nat->Nat)}
theorem nc_le(hY:okY c):ncN c<=131072:=by
 have:=nc_bd hY
 unfold ncN
 omega
theorem E_cm(h:okN c k q):k<=k/\k<=q.cm:=⟨Z _,h.1⟩
theorem E_up{n i:Nat}:upto n (fun _=>0) i<=0/\upto n (fun _=>0) i<=upto n (fun _=>0) i:=⟨by simp[upto],Z _⟩
theorem ee_ok{ec sc b:Nat}:okEe b c (ee0 c.T.toNat ec sc):=⟨fun _=>⟨Int.le_refl 0,(by decide:(0:Int)<=18446744073709551615)⟩,rfl,fun _=>zh _,fun _ _=>zh _,zh _,zh _,zh _,Int.le_refl _,zp _⟩
theorem ma_ok{r:Fr}(h4:r.kd≠24)(hi:r.kd=26->0<=r.i)(hu:r.u=0/\r.v=0/\r.w=0/\r.x=0/\r.qc=0):okMa 1 c (maR r):=by
 obtain⟨h1,h2,h3,h5,h6⟩:=hu
 have z:wd 0:=z_w
 refine⟨fun _=>zh _,fun _ _=>zh _,fun _=>?_,fun _=>?_,fun _=>?_,fun _=>?_,fun _=>?_,fun _=>⟨fun s hs=>⟨⟨Z 1,fun e he=>?_,fun e he=>?_,fun e he=>?_⟩,⟨fun h=>?_,fun h=>?_⟩⟩,Z 1⟩⟩
 ·show wd r.u
  rw[h1];exact z
 ·show wd r.v
  rw[h2];exact z
 ·show wd r.w
  rw[h3];exact z
 ·show wd r.x
  rw[h5];exact z
 ·show r.qc<=_
  rw[h6];decide
 ·exact absurd he (by show ¬e+1<1;omega)
 ·exact absurd he (by show ¬e+1<1;omega)
 ·exact absurd he (by show ¬e+1<1;omega)
 ·rw[hs]at h
  exact absurd h h4
 ·rw[hs]at h ⊢
  exact hi h
theorem wk_ok{j:Nat}:okMa 1 c (wkJ c j):=ma_ok (by show(25:Int)≠24;decide) (fun h=>absurd h (by show ¬(25:Int)=26;decide)) ⟨rfl,rfl,rfl,rfl,rfl⟩
theorem cl_ok:okMa 1 c cl0:=ma_ok (by show(26:Int)≠24;decide) (fun h=>Int.le_refl 0) ⟨rfl,rfl,rfl,rfl,rfl⟩
theorem m5_ok(h2:2<=k)(h5:k<=5):okMs 1 c k (m5W c k):=by
 have hk:k=2\/k=3\/k=4\/k=5:=by omega
 intro j hj
 have hj':j=0\/j=1\/j=2\/j=3\/j=4:=by omega
 rcases hk with rfl|rfl|rfl|rfl<;>rcases hj' with rfl|rfl|rfl|rfl|rfl<;>first|exact wk_ok|exact cl_ok|omega
theorem E_pre(hY:okY c)(hC:okC c)(hU:c.nU<=900000){n ec sc:Nat}(hn:n<=30000)(h2:2<=k)(h5:k<=5):zc7 c k n (ee0 c.T.toNat ec sc) (m5W c k):=⟨hY,hC,hU,hn,ee_ok,m5_ok h2 h5⟩
theorem E1_0:IE1 c ⟨O 0,⟨fun _=>O 0,O 0,O 0,O 0,O 0,O 0⟩⟩:=⟨Int.le_refl _,zp _,fun e=>⟨Int.le_refl _,show(0:Int)<=18446744073709551615 by decide⟩,Int.le_refl _,Int.le_refl _⟩
theorem E1_ix(h:IE1 c x)(hl:decide (x.i<(ncN c:Int))=true):O 0<=x.i/\x.i<(ncN c:Int):=⟨h.1,of_decide_eq_true hl⟩
theorem E1_in(h:IE1 c x)(hl:decide (x.i<(ncN c:Int))=true):0<1/\0+x.i.toNat<ncN c:=by
 have:=of_decide_eq_true hl
 have:=h.1
 omega
theorem E1_s(hY:okY c)(he:okEe 900000 c y)(h:IE1 c x)(hl:decide (x.i<(ncN c:Int))=true):IE1 c ⟨i64.wrap (x.i+O 1),x.m.acc (ncN c) (O 2) x.i (y.m.g (0+x.i.toNat))⟩:=by
 have h1:=of_decide_eq_true hl
 have h0:=h.1
 have hN:=nc_le hY
 have e1:i64.wrap (x.i+O 1)=x.i+1:=w64 (by simp only[zz];omega)
 refine⟨?_,?_,?_⟩
 ·show 0<=i64.wrap _
  rw[e1];omega
 ·show i64.wrap _<=_
  rw[e1];omega
 ·show okMw (i64.wrap _) _
  rw[e1]
  exact zgr h.2.2 (by omega) (he.m _)
theorem E1_mu(hY:okY c)(h:IE1 c x)(hl:decide (x.i<(ncN c:Int))=true):ncN c-(i64.wrap (x.i+O 1)).toNat<ncN c-x.i.toNat:=by
 have h1:=of_decide_eq_true hl
 have h0:=h.1
 have hN:=nc_le hY
 rw[show i64.wrap (x.i+O 1)=x.i+1 from w64 (by simp only[zz];omega)]
 omega
theorem E2_0(hY:okY c)(h:IE1 c x):IE2 ⟨O 0,x.m⟩:=by
 have hN:=nc_le hY
 have:=h.2.1
 exact⟨Int.le_refl _,(by decide:(0:Int)<=14),h.2.2.le (by show x.i<=200000+0;omega)⟩
theorem E2_w(h:IE2 x):i64.wrap (x.i+O 1)=x.i+1:=by
 have h0:=h.1
 have h1:=h.2.1
 exact w64 (by simp only[zz];omega)
theorem E2_ix(h:IE2 x)(hl:decide (i64.wrap (x.i+O 1)<(nc:Int))=true):O 0<=x.i/\x.i<(nc:Int):=by
 have h1:=of_decide_eq_true hl
 rw[E2_w h]at h1
 have h0:=h.1
 simp only[zz]
 omega
theorem E2_in(h:IE2 x)(hl:decide (i64.wrap (x.i+O 1)<(nc:Int))=true):0<1/\0+x.i.toNat<nc:=by
 have h1:=E2_ix h hl
 have h0:=h.1
 omega
theorem E2_iy(h:IE2 x)(hl:decide (i64.wrap (x.i+O 1)<(nc:Int))=true):O 0<=i64.wrap (x.i+O 1)/\i64.wrap (x.i+O 1)<(nc:Int):=by
 have h0:=h.1
 refine⟨?_,of_decide_eq_true hl⟩
 rw[E2_w h]
 simp only[zz]
 omega
theorem E2_iz(h:IE2 x)(hl:decide (i64.wrap (x.i+O 1)<(nc:Int))=true):0<1/\0+(i64.wrap (x.i+O 1)).toNat<nc:=by
 have h1:=E2_iy h hl
 simp only[zz]at h1 ⊢
 omega
theorem E2_ok(hY:okY c)(h:IE2 x):ncN c<=1000000/\okMw (O 1000000000) x.m:=by
 have hN:=nc_le hY
 have:=h.2.1
 exact⟨by omega,h.2.2.le (by simp only[zz];omega)⟩
theorem E2_ex(h:IE2 x):∃m,okMw (x.m.ct+O 1) m:=⟨x.m,h.2.2.now.le (by simp only[zz];omega)⟩
theorem E2_s(h:IE2 x)(hl:decide (x.i<O 12)=true)(hm:okMw (x.m.ct+O 1) m):IE2 ⟨i64.wrap (x.i+O 2),m⟩:=by
 have h1:=of_decide_eq_true hl
 have h0:=h.1
 have h2:=h.2.2.2.2
 simp only[zz]at h1
 have e1:i64.wrap (x.i+O 2)=x.i+2:=w64 (by simp only[zz];omega)
 refine⟨?_,?_,?_⟩
 ·show 0<=i64.wrap _
  rw[e1];omega
 ·show i64.wrap _<=_
  rw[e1];omega
 ·show okMw (200000+i64.wrap _) _
  rw[e1]
  exact hm.le (by simp only[zz];omega)
theorem E2_mu(h:IE2 x)(hl:decide (x.i<O 12)=true):14-(i64.wrap (x.i+O 2)).toNat<14-x.i.toNat:=by
 have h1:=of_decide_eq_true hl
 have h0:=h.1
 simp only[zz]at h1
 rw[show i64.wrap (x.i+O 2)=x.i+2 from w64 (by simp only[zz];omega)]
 omega
theorem E3_0(he:okEe 900000 c y):IE3 y.now ⟨O 0,O 0⟩:=⟨Int.le_refl _,he.t0,rfl⟩
theorem E3_s(he:okEe 900000 c y)(h:IE3 y.now t)(hl:decide (t.i<y.now)=true):IE3 y.now ⟨i64.wrap (t.i+O 1),i64.wrap (t.now+O 1)⟩:=by
 have h1:=of_decide_eq_true hl
 have h0:=h.1
 have h3:=he.t1
 have e1:i64.wrap (t.i+O 1)=t.i+1:=w64 (by simp only[zz];omega)
 refine⟨?_,?_,?_⟩
 ·show 0<=i64.wrap _
  rw[e1];omega
 ·show i64.wrap _<=_
  rw[e1];omega
 ·show i64.wrap _=i64.wrap _
  rw[h.2.2]
theorem E3_mu(he:okEe 900000 c y)(h:IE3 y.now t)(hl:decide (t.i<y.now)=true):(y.now-i64.wrap (t.i+O 1)).toNat<(y.now-t.i).toNat:=by
 have h1:=of_decide_eq_true hl
 have h0:=h.1
 have h3:=he.t1
 rw[show i64.wrap (t.i+O 1)=t.i+1 from w64 (by simp only[zz];omega)]
 omega
theorem E3_end(h:IE3 y.now t)(hl:decide (t.i<y.now)=false):y.now=t.now:=by
 have h1:=of_decide_eq_false hl
 have h2:=h.2
 omega
theorem E_kl(he:okEe 900000 c y){i:Nat}(hi:i<y.x.n):y.x.kl i<=upto y.x.n y.x.kl i/\y.x.kl i<=y.kc i:=⟨by unfold upto;rw[if_pos hi];exact Z _,he.kc i hi⟩
theorem E_kq(hr:y.x.n<=r.1/\∀e,e<y.x.n->y.x.kl e<=r.2 e){i:Nat}(hi:i<y.x.n):y.x.kl i<=upto y.x.n y.x.kl i/\y.x.kl i<=r.2 i:=⟨by unfold upto;rw[if_pos hi];exact Z _,hr.2 i hi⟩
theorem E_rk(hY:okY c)(he:okEe 900000 c y):okRk y.x:=by
 have h1:=hY.2.2.2.1
 have h2:=he.n
 exact⟨by omega,fun e=>by have:=he.kl e;omega⟩
theorem E_q:∃r:Nat×(Nat->Nat),y.x.n<=r.1/\∀e,e<y.x.n->y.x.kl e<=r.2 e:=⟨(_,_),Z _,fun _ _=>Z _⟩
theorem E_rc(hN:okN c k q)(he:okEe 900000 c y):y.x.n<=y.x.n/\y.x.n<=q.rc:=⟨Z _,by rw[he.n];exact hN.2⟩
theorem E_up2(hr:y.x.n<=r.1/\∀e,e<y.x.n->y.x.kl e<=r.2 e)(i:Nat):upto y.x.n y.x.kl i<=r.2 i/\upto y.x.n y.x.kl i<=upto y.x.n y.x.kl i:=up_d (Z _) hr.2 i
theorem E_gd{w:Nat}(hd:IsCl c d/\c.T.toNat<=w)(i:Nat):gd d.nP d.lenP i<=gd d.nP d.FC i/\gd d.nP d.lenP i<=gd d.nP d.lenP i:=by
 obtain⟨⟨FC,rc,cu,hcl,hd'⟩,hrec⟩:=hd
 subst hd'
 exact⟨Vc.gd_le hcl.1 i,Z _⟩
theorem E_ev{w:Nat}{now dr:Int}{a b:Nat×(Nat->Nat)}(hY:okY c)(hd:IsCl c d/\c.T.toNat<=w)(he:okEe 900000 c y)(h:IE2 x)(ha:y.x.n<=a.1/\∀e,e<y.x.n->y.x.kl e<=a.2 e)(hb:y.x.n<=b.1/\∀e,e<y.x.n->y.x.kl e<=b.2 e):
  okEv c ⟨⟨c.W,c.L,c.C,c.T,c.D,c.H,c.B,c.A,c.P,d.nP,d.rc,d.nU,d.cu,d.lenP,d.FC,d.iO,d.iA,d.iB,d.uP,d.uL,d.uD⟩,ncN c,x.m,y.x,now,dr,⟨ncN c,a.1,a.2,0⟩,⟨ncN c,b.1,b.2,0⟩⟩:=by
 obtain⟨⟨FC,rc,cu,hcl,hd'⟩,hrec⟩:=hd
 have:=h.2.1
 exact⟨⟨FC,rc,cu,hcl,by rw[hd'];rfl⟩,rfl,he.n,E_rk hY he,ha.2,hb.2,Z _,Z _,ha.1,hb.1,h.2.2.le (by omega)⟩
end
theorem vhEvS{c:Cf}{n cap:Nat}{ka va:Nat->Int}{nc cc:Nat}{cv:Nat->Int}(h:errE c=0)(hC:okC c)(hW:c.W<=4)(hU:c.nU<=900000)(hn:n<=30000):zad (vEvS c n cap ka va nc cc cv (IE1 c) IE2 IE3 (okEv c)):=by
 have hY:=okY_of h
 refine zad.pr (vEvS_eq ..) ?_
 (with_reducible repeat' first|exact zk|refine zn ?_|refine zm ?_|refine zl ?_ ?_|refine zi ?_|refine nN_h rfl ?_|refine z9 ?_ ?_|intro _)
 all_goals first
  | rfl
  | exact .inl rfl
  | exact Z _
  | assumption
  | exact zh _
  | subst_vars;rfl
  | skip
 all_goals first
  | exact⟨hY,hW⟩
  | exact⟨⟨_,_,0,0⟩,Z _,Z _⟩
  | exact E_up
  | exact⟨_,Z _⟩
  | exact⟨(_,_),is_cl _,Z _⟩
  | exact E_cm ‹_›
  | exact E_pre (k:=2) hY hC hU hn (by decide) (by decide)
  | exact E_pre (k:=3) hY hC hU hn (by decide) (by decide)
  | exact E_pre (k:=4) hY hC hU hn (by decide) (by decide)
  | exact E_pre (k:=5) hY hC hU hn (by decide) (by decide)
  | exact⟨_,ee_ok (ec:=0) (sc:=0)⟩
  | exact E1_0
  | exact E1_ix ‹_› ‹_›
  | exact E1_in ‹_› ‹_›
  | exact E1_mu hY ‹_› ‹_›
  | exact E2_0 hY ‹_›
  | exact E2_ix ‹_› ‹_›
  | exact E2_in ‹_› ‹_›
  | exact E2_iy ‹_› ‹_›
  | exact E2_iz ‹_› ‹_›
  | exact E2_ok hY ‹_›
  | exact E2_ex ‹_›
  | exact E2_s ‹_› ‹_› ‹_›
  | exact E2_mu ‹_› ‹_›
  | exact E3_0 ‹_›
  | exact E3_s ‹_› ‹_› ‹_›
  | exact E3_mu ‹_› ‹_› ‹_›
  | exact E3_end ‹_› ‹_›
  | exact E_kl ‹_› ‹_›
  | exact E_kq ‹_› ‹_›
  | exact E_rk hY ‹_›
  | exact E_q
  | exact E_rc ‹_› ‹_›
  | exact E_up2 ‹_› _
  | exact E_gd ‹_› _
  | exact⟨Z _,Z _⟩
  | exact⟨Z _,And.left ‹_›⟩
  | (subst_vars;exact E1_s hY ‹_› ‹_› ‹_›)
  | (subst_vars;exact E_ev hY ‹_› ‹_› ‹_› ‹_› ‹_›)
  | (subst_vars;exact⟨Z _,Z _⟩)
  | (subst_vars;exact⟨(E2_ok hY ‹_›).1,E_rk hY ‹_›,zh _⟩)
  | (subst_vars;exact Z _)
  | (exfalso;rename_i hb;have h1:¬(c.T.toNat:Int)=c.T:=(by simpa using hb);have:=hY.2.2.2.1;omega)
  | (exfalso;subst_vars;rename_i hb;simp at hb;done)
  | trace_state
noncomputable section
def preEv(c:Cf)(n:Nat):Prop:=errE c=0/\okC c/\c.W<=4/\c.nU<=900000/\n<=30000
def postEv(c:Cf)(n:Nat):Out (SV×Hp):=.need (preEv c n) (.any Ev (okEv c) fun v=>.leaf (svEvS,⟨hEvS c v,20,fun _=>True⟩))
def cEvS:List SV->Hp->Out (SV×Hp):=fun args H=>match args with
  | [.a [x0,x1,x2,x3,x4,x5,x6,x7,x8,.slc kr _ _ _ nP rc,.slc ku _ _ _ nU cu],.c (.slc ks _ _ _ n cap),.c (.slc kc _ _ _ nc cc)]=>match numC x0,numC x1,numC x2,numC x3,numC x4,numC x5,numC x6,numC x7,numC x8 with
    | some W,some L,some C,some T,some D,some h,some B,some A,some Q=>fN kr fun kr=>fN ku fun ku=>fN ks fun ks=>fN kc fun kc=>match (find ks H.h).map zfe,(find kc H.h).map zfe with
      | some [ca,cb],some [cd]=>match colG ca,colG cb,colG cd with
        | some ka,some va,some cv=>cfBlk H.h kr ku fun kF ln cp o a b f g k=>useP [kr,ku,kF,ks,kc] 5
                (argEvS ⟨W,L,C,T,D,h,B,A,Q,nP.v,rc.v,nU.v,cu.v,fun e=>ln 0 e,fun e=>cp 0 e,o,a,b,fun e=>f 0 e,fun e=>g 0 e,fun e=>k 0 e⟩ n.v cap.v nc.v cc.v)
                (hIn ⟨W,L,C,T,D,h,B,A,Q,nP.v,rc.v,nU.v,cu.v,fun e=>ln 0 e,fun e=>cp 0 e,o,a,b,fun e=>f 0 e,fun e=>g 0 e,fun e=>k 0 e⟩ n.v (fun e=>ka e) (fun e=>va e) nc.v (fun e=>cv e))
                (postEv ⟨W,L,C,T,D,h,B,A,Q,nP.v,rc.v,nU.v,cu.v,fun e=>ln 0 e,fun e=>cp 0 e,o,a,b,fun e=>f 0 e,fun e=>g 0 e,fun e=>k 0 e⟩ n.v) args H
        | _,_,_=>.bad 436
      | _,_=>.bad 437
    | _,_,_,_,_,_,_,_,_=>.bad 434
  | _=>.bad 435
theorem lEvS{c:Cf}{n cap:Nat}{ka va:Nat->Int}{nc cc:Nat}{cv:Nat->Int}:zah P fEv (argEvS c n cap nc cc) (hIn c n ka va nc cv) 5 (postEv c n):=zae conEvS_ok fun h=>vhEvS h.1 h.2.1 h.2.2.1 h.2.2.2.1 h.2.2.2.2
theorem cEvS_ok:zab P fEv cEvS:=zac fun args H=>by
 unfold cEvS
 simp only[fN_eq]
 repeat' split
 all_goals first|exact .inl ⟨_,rfl⟩|exact(cfBlk_ok _ _ _ _).elim .inl fun ⟨_,_,_,_,_,_,_,_,_,e⟩=>.inr ⟨_,_,_,_,_,e,lEvS⟩
end
end Go.Proofs.YtabiechfpefjhaaGreat.En
