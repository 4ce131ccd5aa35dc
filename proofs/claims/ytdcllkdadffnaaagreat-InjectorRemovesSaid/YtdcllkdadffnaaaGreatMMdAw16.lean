/- The sanity check: the conditions, printed by program. -/
import Derived.Test.YtdcllkdadffnaaaGreatMMdAw16D
import Derived.Test.YtdcllkdadffnaaaGreatMW
import Derived.Test.YtdcllkdadffnaaaGreatMNw
import Derived.Test.YtdcllkdadffnaaaGreatMMd
set_option maxHeartbeats 64000000
set_option linter.unusedVariables false
set_option linter.unusedSimpArgs false
set_option maxRecDepth 100000
open Go.IntKind (i64 u64)
open Int renaming ofNat -> O
open Nat renaming le_refl -> Z
open Go.Proofs.YtdcllkdadffnaaaGreat.Sx.V renaming need -> U
namespace Go.Proofs.YtdcllkdadffnaaaGreat.Md
open Go Go.RowKit Sx Cn Dc Ck Vc
abbrev ma0 (k:V):V:=U True (U (false=true) k)
abbrev ma1 (k:V):V:=U (O 50=(↑50:Int)) (nN [(1,.eqI 3 3)] k)
abbrev ma2 (a0:Mm) (l:LP):LP:=(1,.le 1293 1293)::(1,.pf (∀ (e:Nat),e < 1293->a0.g e=a0.g e) (by intros; rfl))::l
abbrev ma3 (l:LP):LP:=(3,.eqI 1 1)::(1,.eqI 256 256)::l
abbrev ma4 (a0:Mm) (l:LP):LP:=(1,.pf (a0.lk=a0.lk) rfl)::(1,.pf (a0.lc=a0.lc) rfl)::l
abbrev ma5 (l:LP):LP:=(1,.eqI 1 1)::(1,.eqI 3 3)::l
abbrev ma6 (l:LP):LP:=(1,.eqI 10 10)::(1,.eqI 13 13)::l
abbrev ma7 (l:LP):LP:=(1,.eqI 7 7)::(1,.eqI 8 8)::l
abbrev ma8 (a0:Mm) (l:LP):LP:=(1,.pf (a0.lo=a0.lo) rfl)::(1,.pf (a0.ln=a0.ln) rfl)::(1,.pf (a0.ct=a0.ct) rfl)::l
theorem vAw16_eq :vAw16=
 U ((U8 0 fun (x:Nat)=>O 0)/\0<=9) (nA (fun (x:Nat×Nat×(Nat->Nat))=>1<=x.fst) fun y0=>nN (ma3 (ma5 [(1,.eqI 1 1),(1,.eqI 0 0),(1,.eqI 1 1),(1,.eq 1 1),(1,.pf (y0.fst=y0.fst) rfl),(1,.eq 0 0),(1,.pf (y0.snd.fst=y0.snd.fst) rfl),(1,.le 1 1)])) (U (1<=1/\1<=y0.fst) (nN [(1,.pf (∀ (i e:Nat),i=0/\e < 1->e=e) (by intros; rfl)),(1,.pf (∀ (i e:Nat),i=0/\e < 1->0=0) (by intros; rfl)),(1,.pf (∀ (i e:Nat),i=0/\e < 1->y0.snd.snd e=y0.snd.snd e) (by intros; rfl)),(1,.le 1 1)] (U (0<=0/\0<=y0.snd.fst) (nN [(1,.pf (∀ (i e:Nat),i=0/\e < 0->uP (fun (x:Nat)=>O 0) 0 e=uP (fun (x:Nat)=>O 0) 0 e) (by intros; rfl)),(1,.pf (∀ (i e:Nat),i=0/\e < 0->uL (fun (x:Nat)=>O 0) 0 e=uL (fun (x:Nat)=>O 0) 0 e) (by intros; rfl)),(1,.pf (∀ (i e:Nat),i=0/\e < 0->uD (fun (x:Nat)=>O 0) 0 e=uD (fun (x:Nat)=>O 0) 0 e) (by intros; rfl))] (U (∀ (i:Nat),i < 1->0<=gd 1 (fun (x:Nat)=>0) i/\0<=gd 1 y0.snd.snd i) (nN [(1,.pf (∀ (i e:Nat),i < 1/\e < 0->cO (fun (x:Nat)=>O 0) 0 i e=cO (fun (x:Nat)=>O 0) 0 i e) (by intros; rfl)),(1,.pf (∀ (i e:Nat),i < 1/\e < 0->cA (fun (x:Nat)=>O 0) 0 i e=cA (fun (x:Nat)=>O 0) 0 i e) (by intros; rfl)),(1,.pf (∀ (i e:Nat),i < 1/\e < 0->cB (fun (x:Nat)=>O 0) 0 i e=cB (fun (x:Nat)=>O 0) 0 i e) (by intros; rfl))] (U (errE (Cf.mk (O 1) (O 1) (O 1) (O 256) (O 1) (O 3) (O 1) (O 0) (O 1) 1 y0.fst 0 y0.snd.fst (fun (e:Nat)=>0) y0.snd.snd (fun (i e:Nat)=>cO (fun (x:Nat)=>O 0) 0 i e) (fun (i e:Nat)=>cA (fun (x:Nat)=>O 0) 0 i e) (fun (i e:Nat)=>cB (fun (x:Nat)=>O 0) 0 i e) (fun (e:Nat)=>uP (fun (x:Nat)=>O 0) 0 e) (fun (e:Nat)=>uL (fun (x:Nat)=>O 0) 0 e) fun (e:Nat)=>uD (fun (x:Nat)=>O 0) 0 e)=O 0) (nA (fun (x_1:Cf×Nat)=>IsCl (Cf.mk (O 1) (O 1) (O 1) (O 256) (O 1) (O 3) (O 1) (O 0) (O 1) 1 y0.fst 0 y0.snd.fst (fun (e:Nat)=>0) y0.snd.snd (fun (i e:Nat)=>cO (fun (x:Nat)=>O 0) 0 i e) (fun (i e:Nat)=>cA (fun (x:Nat)=>O 0) 0 i e) (fun (i e:Nat)=>cB (fun (x:Nat)=>O 0) 0 i e) (fun (e:Nat)=>uP (fun (x:Nat)=>O 0) 0 e) (fun (e:Nat)=>uL (fun (x:Nat)=>O 0) 0 e) fun (e:Nat)=>uD (fun (x:Nat)=>O 0) 0 e) x_1.fst/\(O 256).toNat<=x_1.snd) fun y1=>nN [(1,.pf (∃ (x_2:Nat×Int),x_2=(ncN (Cf.mk (O 1) (O 1) (O 1) (O 256) (O 1) (O 3) (O 1) (O 0) (O 1) 1 y0.fst 0 y0.snd.fst (fun (e:Nat)=>0) y0.snd.snd (fun (i e:Nat)=>cO (fun (x:Nat)=>O 0) 0 i e) (fun (i e:Nat)=>cA (fun (x:Nat)=>O 0) 0 i e) (fun (i e:Nat)=>cB (fun (x:Nat)=>O 0) 0 i e) (fun (e:Nat)=>uP (fun (x:Nat)=>O 0) 0 e) (fun (e:Nat)=>uL (fun (x:Nat)=>O 0) 0 e) fun (e:Nat)=>uD (fun (x:Nat)=>O 0) 0 e),lT (Cf.mk (O 1) (O 1) (O 1) (O 256) (O 1) (O 3) (O 1) (O 0) (O 1) 1 y0.fst 0 y0.snd.fst (fun (e:Nat)=>0) y0.snd.snd (fun (i e:Nat)=>cO (fun (x:Nat)=>O 0) 0 i e) (fun (i e:Nat)=>cA (fun (x:Nat)=>O 0) 0 i e) (fun (i e:Nat)=>cB (fun (x:Nat)=>O 0) 0 i e) (fun (e:Nat)=>uP (fun (x:Nat)=>O 0) 0 e) (fun (e:Nat)=>uL (fun (x:Nat)=>O 0) 0 e) fun (e:Nat)=>uD (fun (x:Nat)=>O 0) 0 e))) ⟨_,rfl⟩)] (V.any (Nat×Int) (fun (q:Nat×Int)=>q=(ncN (Cf.mk (O 1) (O 1) (O 1) (O 256) (O 1) (O 3) (O 1) (O 0) (O 1) 1 y0.fst 0 y0.snd.fst (fun (e:Nat)=>0) y0.snd.snd (fun (i e:Nat)=>cO (fun (x:Nat)=>O 0) 0 i e) (fun (i e:Nat)=>cA (fun (x:Nat)=>O 0) 0 i e) (fun (i e:Nat)=>cB (fun (x:Nat)=>O 0) 0 i e) (fun (e:Nat)=>uP (fun (x:Nat)=>O 0) 0 e) (fun (e:Nat)=>uL (fun (x:Nat)=>O 0) 0 e) fun (e:Nat)=>uD (fun (x:Nat)=>O 0) 0 e),lT (Cf.mk (O 1) (O 1) (O 1) (O 256) (O 1) (O 3) (O 1) (O 0) (O 1) 1 y0.fst 0 y0.snd.fst (fun (e:Nat)=>0) y0.snd.snd (fun (i e:Nat)=>cO (fun (x:Nat)=>O 0) 0 i e) (fun (i e:Nat)=>cA (fun (x:Nat)=>O 0) 0 i e) (fun (i e:Nat)=>cB (fun (x:Nat)=>O 0) 0 i e) (fun (e:Nat)=>uP (fun (x:Nat)=>O 0) 0 e) (fun (e:Nat)=>uL (fun (x:Nat)=>O 0) 0 e) fun (e:Nat)=>uD (fun (x:Nat)=>O 0) 0 e))) fun y2=>ma1 (nN (ma3 (ma5 (ma7 ((1,.eqI 9 9)::ma6 [(5,.eqI 0 0),(1,.eq 1293 1293),(1,.le 1293 1293),(1,.pf (∀ (e:Nat),e < 1293->O 0=O 0) (by intros; rfl)),(1,.eqI 9 9),(1,.eqI 0 0)])))) (U (pIJ (AP.mk (Ly.mk (O 1) (O 1) (O 1) (O 256) (O 1) (O 3) (O 7) (O 8) (O 9) (O 10) (O 13)) 6 7 (NV.k 1293) (NV.k 1293) (Mm.mk (fun (e:Nat)=>O 0) (O 0) (O 0) (O 0) (O 0) (O 0))) 50) (nN [(1,.pf (∃ (x:Rs),x=inR (Ly.mk (O 1) (O 1) (O 1) (O 256) (O 1) (O 3) (O 7) (O 8) (O 9) (O 10) (O 13)) 1293 (O 9) (O 0) 50 (Mm.mk (fun (e:Nat)=>O 0) (O 0) (O 0) (O 0) (O 0) (O 0))) ⟨_,rfl⟩)] (V.any Rs (fun (r:Rs)=>r=inR (Ly.mk (O 1) (O 1) (O 1) (O 256) (O 1) (O 3) (O 7) (O 8) (O 9) (O 10) (O 13)) 1293 (O 9) (O 0) 50 (Mm.mk (fun (e:Nat)=>O 0) (O 0) (O 0) (O 0) (O 0) (O 0))) fun y3=>ma1 (nN (ma3 (ma5 (ma7 ((1,.eqI 9 9)::ma6 (ma4 y3.m (ma8 y3.m ((1,.eq 1293 1293)::ma2 y3.m [(1,.eqI 4 4),(1,.eqI 1 1)]))))))) (U (pIJ (AP.mk (Ly.mk (O 1) (O 1) (O 1) (O 256) (O 1) (O 3) (O 7) (O 8) (O 9) (O 10) (O 13)) 6 7 (NV.k 1293) (NV.k 1293) y3.m) 50) (nN [(1,.pf (∃ (x_2:Rs),x_2=inR (Ly.mk (O 1) (O 1) (O 1) (O 256) (O 1) (O 3) (O 7) (O 8) (O 9) (O 10) (O 13)) 1293 (O 4) (O 1) 50 y3.m) ⟨_,rfl⟩)] (V.any Rs (fun (r:Rs)=>r=inR (Ly.mk (O 1) (O 1) (O 1) (O 256) (O 1) (O 3) (O 7) (O 8) (O 9) (O 10) (O 13)) 1293 (O 4) (O 1) 50 y3.m) fun y4=>ma1 (nN (ma3 (ma5 (ma7 ((1,.eqI 9 9)::ma6 ((2,.eq 0 0)::ma4 y4.m (ma8 y4.m ((1,.eq 1293 1293)::ma2 y4.m [(1,.eq 0 0),(1,.le 0 0),(5,.pf (∀ (e:Nat),e < 0->O 0=O 0) (by intros; rfl)),(1,.eqI 0 0)]))))))) (U (pIJ (AP.mk (Ly.mk (O 1) (O 1) (O 1) (O 256) (O 1) (O 3) (O 7) (O 8) (O 9) (O 10) (O 13)) 6 7 (NV.k 1293) (NV.k 1293) y4.m) 50/\0<=0/\0<=1000) (nA (fun (r:Re×Nat)=>r.fst=rmR (Ly.mk (O 1) (O 1) (O 1) (O 256) (O 1) (O 3) (O 7) (O 8) (O 9) (O 10) (O 13)) 1293 (O 0) 50 y4.m (El.mk 0 (Evs.mk (fun (i:Nat)=>O 0) (fun (i:Nat)=>O 0) (fun (i:Nat)=>O 0) (fun (i:Nat)=>O 0) fun (i:Nat)=>O 0))/\(rmR (Ly.mk (O 1) (O 1) (O 1) (O 256) (O 1) (O 3) (O 7) (O 8) (O 9) (O 10) (O 13)) 1293 (O 0) 50 y4.m (El.mk 0 (Evs.mk (fun (i:Nat)=>O 0) (fun (i:Nat)=>O 0) (fun (i:Nat)=>O 0) (fun (i:Nat)=>O 0) fun (i:Nat)=>O 0))).l.n<=r.snd) fun y5=>ma1 (nN (ma3 (ma5 (ma7 ((1,.eqI 9 9)::ma6 ((1,.pf (y5.fst.l.n=y5.fst.l.n) rfl)::(1,.pf (y5.snd=y5.snd) rfl)::ma4 y5.fst.m (ma8 y5.fst.m ((1,.eq 1293 1293)::ma2 y5.fst.m [(1,.pf (y5.snd=y5.snd) rfl),(1,.pf (y5.fst.l.n<=y5.fst.l.n) (Z _)),(1,.pf (∀ (e:Nat),e < y5.fst.l.n->y5.fst.l.v.k e=y5.fst.l.v.k e) (by intros; rfl)),(1,.pf (∀ (e:Nat),e < y5.fst.l.n->y5.fst.l.v.w e=y5.fst.l.v.w e) (by intros; rfl)),(1,.pf (∀ (e:Nat),e < y5.fst.l.n->y5.fst.l.v.t e=y5.fst.l.v.t e) (by intros; rfl)),(1,.pf (∀ (e:Nat),e < y5.fst.l.n->y5.fst.l.v.o e=y5.fst.l.v.o e) (by intros; rfl)),(1,.pf (∀ (e:Nat),e < y5.fst.l.n->y5.fst.l.v.l e=y5.fst.l.v.l e) (by intros; rfl)),(1,.eqI 0 0)]))))))) (U (pIJ (AP.mk (Ly.mk (O 1) (O 1) (O 1) (O 256) (O 1) (O 3) (O 7) (O 8) (O 9) (O 10) (O 13)) 6 7 (NV.k 1293) (NV.k 1293) y5.fst.m) 50/\y5.fst.l.n<=y5.snd/\y5.fst.l.n<=1000) (nA (fun (r:Re×Nat)=>r.fst=rmR (Ly.mk (O 1) (O 1) (O 1) (O 256) (O 1) (O 3) (O 7) (O 8) (O 9) (O 10) (O 13)) 1293 (O 0) 50 y5.fst.m y5.fst.l/\(rmR (Ly.mk (O 1) (O 1) (O 1) (O 256) (O 1) (O 3) (O 7) (O 8) (O 9) (O 10) (O 13)) 1293 (O 0) 50 y5.fst.m y5.fst.l).l.n<=r.snd) fun y6=>V.br (y3.c == O 0) (V.br (y3.k == O 4) (V.br (y4.c == O 0) (V.br (y5.fst.c == O 1) (V.br (y5.fst.v == O 1) (V.br (y6.fst.c == O 1) (V.br (y6.fst.v == O 0) (V.br (y6.fst.k == O 4) (U True (U (((↑y6.fst.l.n:Int) == O 2)=true) (V.ok))) (ma0 V.ok)) (ma0 V.ok)) (ma0 V.ok)) (ma0 V.ok)) (ma0 V.ok)) (ma0 V.ok)) (ma0 V.ok)) (ma0 V.ok))))))))))))))))))))))))):=by kernel_rfl
end Go.Proofs.YtdcllkdadffnaaaGreat.Md
/- The sanity check of chapter 16: the contract. -/
namespace Go.Proofs.YtdcllkdadffnaaaGreat.Md
open Go Go.RowKit Sx Cn Dc Ck Vc
theorem pij3 {x:AP} (h:x.y.H=3):pIJ x 50:=⟨⟨by omega,by omega⟩,by decide⟩
theorem vhAw16:zae vAw16:=by
 constructor
 rw [vAw16_eq]
 (with_reducible repeat' first | exact V.okI | refine V.anyCfg ?_ | refine V.anyMm ?_ | refine V.anyInt ?_ | refine V.anyNat ?_ | refine V.anyCl' ?_ | refine nN_h rfl ?_ | refine V.needI ?_ ?_ | intro _)
 all_goals first
  | (first | rfl | exact True.intro | exact ⟨u8_0,by decide⟩ | exact ⟨(1,0,fun _=>0),Z _⟩ | exact ⟨Z _,by assumption⟩ | exact Nat.zero_le _ | exact ⟨Nat.zero_le _,Nat.zero_le _⟩ | exact ⟨(_,_),is_cl _,Z _⟩ | exact err9 (by unfold okN; simp only [Int.ofNat_eq_natCast]; omega) rfl rfl rfl | decide)
  | exact err9 (by unfold okN; dsimp only; omega) rfl rfl rfl
  | exact ⟨(_,_),is_cl _,Z _⟩
  | exact ⟨u8_0,by decide⟩
  | omega
  | skip
 refine V.anyI fun q _=>?_
 (with_reducible repeat' first | exact V.okI | refine V.anyCfg ?_ | refine V.anyMm ?_ | refine V.anyInt ?_ | refine V.anyNat ?_ | refine V.anyCl' ?_ | refine nN_h rfl ?_ | refine V.needI ?_ ?_ | intro _)
 all_goals first
  | rfl
  | exact True.intro
  | exact pij3 rfl
  | exact ⟨pij3 rfl,by decide,by decide⟩
  | exact ⟨(_,_),rfl,Z _⟩
  | skip
 refine V.anyI fun r1 h1=>?_
 subst h1
 (with_reducible repeat' first | exact V.okI | refine V.anyCfg ?_ | refine V.anyMm ?_ | refine V.anyInt ?_ | refine V.anyNat ?_ | refine V.anyCl' ?_ | refine nN_h rfl ?_ | refine V.needI ?_ ?_ | intro _)
 all_goals first
  | rfl
  | exact True.intro
  | exact pij3 rfl
  | exact ⟨pij3 rfl,by decide,by decide⟩
  | exact ⟨(_,_),rfl,Z _⟩
  | skip
 refine V.anyI fun r2 h2=>?_
 subst h2
 (with_reducible repeat' first | exact V.okI | refine V.anyCfg ?_ | refine V.anyMm ?_ | refine V.anyInt ?_ | refine V.anyNat ?_ | refine V.anyCl' ?_ | refine nN_h rfl ?_ | refine V.needI ?_ ?_ | intro _)
 all_goals first
  | rfl
  | exact True.intro
  | exact pij3 rfl
  | exact ⟨pij3 rfl,by decide,by decide⟩
  | exact ⟨(_,_),rfl,Z _⟩
  | skip
 refine V.anyI fun r3 h3=>?_
 obtain ⟨r3,n3⟩:=r3
 obtain ⟨h3,g3⟩:=h3
 dsimp only at h3 g3 ⊢
 subst h3
 (with_reducible repeat' first | exact V.okI | refine V.anyCfg ?_ | refine V.anyMm ?_ | refine V.anyInt ?_ | refine V.anyNat ?_ | refine V.anyCl' ?_ | refine nN_h rfl ?_ | refine V.needI ?_ ?_ | intro _)
 all_goals first
  | rfl
  | exact True.intro
  | exact pij3 rfl
  | exact ⟨pij3 rfl,by decide,by decide⟩
  | exact ⟨(_,_),rfl,Z _⟩
  | skip
 exact ⟨pij3 rfl,g3,show (rmR _ _ _ _ _ _).l.n<=1000 from by decide +kernel⟩
 refine V.anyI fun r4 h4=>?_
 obtain ⟨r4,n4⟩:=r4
 obtain ⟨h4,g4⟩:=h4
 dsimp only at h4 g4 ⊢
 subst h4
 (with_reducible repeat' first | exact V.okI | refine V.brT ?_ | refine V.brF ?_ | refine V.brI ?_ ?_ | refine V.anyI ?_ | refine nN_h rfl ?_ | refine V.needI ?_ ?_ | intro _)
 all_goals first
  | exact True.intro
  | (rename_i h; exact absurd h (by decide +kernel))
  | decide +kernel
  | skip
theorem aw16_ok:zab P 8 conYes:=conYes_ok (zbs conIA_ok fun _=>vhAw16)
end Go.Proofs.YtdcllkdadffnaaaGreat.Md
