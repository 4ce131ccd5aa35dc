/- The sanity check: the conditions, printed by program. -/
import Derived.Test.YtmbploaccpecbaaGreatMMdAw16D
import Derived.Test.YtmbploaccpecbaaGreatMW
import Derived.Test.YtmbploaccpecbaaGreatMNw
import Derived.Test.YtmbploaccpecbaaGreatMMd
set_option maxHeartbeats 64000000
set_option linter.unusedVariables false
set_option linter.unusedSimpArgs false
set_option maxRecDepth 100000
open Int (ofNat)
open Go.IntKind (i64 u64)
namespace Go.Proofs.YtmbploaccpecbaaGreat.Md
open Go Go.RowKit Sx Cn Dc Ck Vc
theorem vAw16_eq :vAw16=
 V.need ((U8 0 fun (x:Nat)=>ofNat 0)/\0<=9)
  (V.need (∃ (x:Nat×Nat×(Nat->Nat)),1<=x.fst)
  (V.any (Nat×Nat×(Nat->Nat)) (fun (x:Nat×Nat×(Nat->Nat))=>1<=x.fst) fun (x:Nat×Nat×(Nat->Nat))=>nN [(3,.eqI 1 1),(1,.eqI 256 256),(1,.eqI 1 1),(1,.eqI 3 3),(1,.eqI 1 1),(1,.eqI 0 0),(1,.eqI 1 1),(1,.eq 1 1),(1,.pf (x.fst=x.fst) rfl),(1,.eq 0 0),(1,.pf (x.snd.fst=x.snd.fst) rfl),(1,.le 1 1)]
  (V.need (1<=1/\1<=x.fst)
  (nN [(1,.pf (∀ (i e:Nat),i=0/\e < 1->e=e) (by intros; rfl)),(1,.pf (∀ (i e:Nat),i=0/\e < 1->0=0) (by intros; rfl)),(1,.pf (∀ (i e:Nat),i=0/\e < 1->x.snd.snd e=x.snd.snd e) (by intros; rfl)),(1,.le 1 1)]
  (V.need (0<=0/\0<=x.snd.fst)
  (nN [(1,.pf (∀ (i e:Nat),i=0/\e < 0->uP (fun (x:Nat)=>ofNat 0) 0 e=uP (fun (x:Nat)=>ofNat 0) 0 e) (by intros; rfl)),(1,.pf (∀ (i e:Nat),i=0/\e < 0->uL (fun (x:Nat)=>ofNat 0) 0 e=uL (fun (x:Nat)=>ofNat 0) 0 e) (by intros; rfl)),(1,.pf (∀ (i e:Nat),i=0/\e < 0->uD (fun (x:Nat)=>ofNat 0) 0 e=uD (fun (x:Nat)=>ofNat 0) 0 e) (by intros; rfl))]
  (V.need (∀ (i:Nat),i < 1->0<=gd 1 (fun (x:Nat)=>0) i/\0<=gd 1 (fun (e:Nat)=>x.snd.snd e) i)
  (nN [(1,.pf (∀ (i e:Nat),i < 1/\e < 0->cO (fun (x:Nat)=>ofNat 0) 0 i e=cO (fun (x:Nat)=>ofNat 0) 0 i e) (by intros; rfl)),(1,.pf (∀ (i e:Nat),i < 1/\e < 0->cA (fun (x:Nat)=>ofNat 0) 0 i e=cA (fun (x:Nat)=>ofNat 0) 0 i e) (by intros; rfl)),(1,.pf (∀ (i e:Nat),i < 1/\e < 0->cB (fun (x:Nat)=>ofNat 0) 0 i e=cB (fun (x:Nat)=>ofNat 0) 0 i e) (by intros; rfl))]
  (V.need (errE (Cf.mk (ofNat 1) (ofNat 1) (ofNat 1) (ofNat 256) (ofNat 1) (ofNat 3) (ofNat 1) (ofNat 0) (ofNat 1) 1 x.fst 0 x.snd.fst (fun (e:Nat)=>0) (fun (e:Nat)=>x.snd.snd e) (fun (i e:Nat)=>cO (fun (x:Nat)=>ofNat 0) 0 i e) (fun (i e:Nat)=>cA (fun (x:Nat)=>ofNat 0) 0 i e) (fun (i e:Nat)=>cB (fun (x:Nat)=>ofNat 0) 0 i e) (fun (e:Nat)=>uP (fun (x:Nat)=>ofNat 0) 0 e) (fun (e:Nat)=>uL (fun (x:Nat)=>ofNat 0) 0 e) fun (e:Nat)=>uD (fun (x:Nat)=>ofNat 0) 0 e)=ofNat 0)
  (V.need (∃ (x_1:Cf×Nat),IsCl (Cf.mk (ofNat 1) (ofNat 1) (ofNat 1) (ofNat 256) (ofNat 1) (ofNat 3) (ofNat 1) (ofNat 0) (ofNat 1) 1 x.fst 0 x.snd.fst (fun (e:Nat)=>0) (fun (e:Nat)=>x.snd.snd e) (fun (i e:Nat)=>cO (fun (x:Nat)=>ofNat 0) 0 i e) (fun (i e:Nat)=>cA (fun (x:Nat)=>ofNat 0) 0 i e) (fun (i e:Nat)=>cB (fun (x:Nat)=>ofNat 0) 0 i e) (fun (e:Nat)=>uP (fun (x:Nat)=>ofNat 0) 0 e) (fun (e:Nat)=>uL (fun (x:Nat)=>ofNat 0) 0 e) fun (e:Nat)=>uD (fun (x:Nat)=>ofNat 0) 0 e) x_1.fst/\(ofNat 256).toNat<=x_1.snd)
  (V.any (Cf×Nat) (fun (x_1:Cf×Nat)=>IsCl (Cf.mk (ofNat 1) (ofNat 1) (ofNat 1) (ofNat 256) (ofNat 1) (ofNat 3) (ofNat 1) (ofNat 0) (ofNat 1) 1 x.fst 0 x.snd.fst (fun (e:Nat)=>0) (fun (e:Nat)=>x.snd.snd e) (fun (i e:Nat)=>cO (fun (x:Nat)=>ofNat 0) 0 i e) (fun (i e:Nat)=>cA (fun (x:Nat)=>ofNat 0) 0 i e) (fun (i e:Nat)=>cB (fun (x:Nat)=>ofNat 0) 0 i e) (fun (e:Nat)=>uP (fun (x:Nat)=>ofNat 0) 0 e) (fun (e:Nat)=>uL (fun (x:Nat)=>ofNat 0) 0 e) fun (e:Nat)=>uD (fun (x:Nat)=>ofNat 0) 0 e) x_1.fst/\(ofNat 256).toNat<=x_1.snd) fun (x_1:Cf×Nat)=>nN [(1,.pf (∃ (x_2:Nat×Int),x_2=(ncN (Cf.mk (ofNat 1) (ofNat 1) (ofNat 1) (ofNat 256) (ofNat 1) (ofNat 3) (ofNat 1) (ofNat 0) (ofNat 1) 1 x.fst 0 x.snd.fst (fun (e:Nat)=>0) (fun (e:Nat)=>x.snd.snd e) (fun (i e:Nat)=>cO (fun (x:Nat)=>ofNat 0) 0 i e) (fun (i e:Nat)=>cA (fun (x:Nat)=>ofNat 0) 0 i e) (fun (i e:Nat)=>cB (fun (x:Nat)=>ofNat 0) 0 i e) (fun (e:Nat)=>uP (fun (x:Nat)=>ofNat 0) 0 e) (fun (e:Nat)=>uL (fun (x:Nat)=>ofNat 0) 0 e) fun (e:Nat)=>uD (fun (x:Nat)=>ofNat 0) 0 e),lT (Cf.mk (ofNat 1) (ofNat 1) (ofNat 1) (ofNat 256) (ofNat 1) (ofNat 3) (ofNat 1) (ofNat 0) (ofNat 1) 1 x.fst 0 x.snd.fst (fun (e:Nat)=>0) (fun (e:Nat)=>x.snd.snd e) (fun (i e:Nat)=>cO (fun (x:Nat)=>ofNat 0) 0 i e) (fun (i e:Nat)=>cA (fun (x:Nat)=>ofNat 0) 0 i e) (fun (i e:Nat)=>cB (fun (x:Nat)=>ofNat 0) 0 i e) (fun (e:Nat)=>uP (fun (x:Nat)=>ofNat 0) 0 e) (fun (e:Nat)=>uL (fun (x:Nat)=>ofNat 0) 0 e) fun (e:Nat)=>uD (fun (x:Nat)=>ofNat 0) 0 e))) ⟨_,rfl⟩)]
  (V.any (Nat×Int) (fun (q:Nat×Int)=>q=(ncN (Cf.mk (ofNat 1) (ofNat 1) (ofNat 1) (ofNat 256) (ofNat 1) (ofNat 3) (ofNat 1) (ofNat 0) (ofNat 1) 1 x.fst 0 x.snd.fst (fun (e:Nat)=>0) (fun (e:Nat)=>x.snd.snd e) (fun (i e:Nat)=>cO (fun (x:Nat)=>ofNat 0) 0 i e) (fun (i e:Nat)=>cA (fun (x:Nat)=>ofNat 0) 0 i e) (fun (i e:Nat)=>cB (fun (x:Nat)=>ofNat 0) 0 i e) (fun (e:Nat)=>uP (fun (x:Nat)=>ofNat 0) 0 e) (fun (e:Nat)=>uL (fun (x:Nat)=>ofNat 0) 0 e) fun (e:Nat)=>uD (fun (x:Nat)=>ofNat 0) 0 e),lT (Cf.mk (ofNat 1) (ofNat 1) (ofNat 1) (ofNat 256) (ofNat 1) (ofNat 3) (ofNat 1) (ofNat 0) (ofNat 1) 1 x.fst 0 x.snd.fst (fun (e:Nat)=>0) (fun (e:Nat)=>x.snd.snd e) (fun (i e:Nat)=>cO (fun (x:Nat)=>ofNat 0) 0 i e) (fun (i e:Nat)=>cA (fun (x:Nat)=>ofNat 0) 0 i e) (fun (i e:Nat)=>cB (fun (x:Nat)=>ofNat 0) 0 i e) (fun (e:Nat)=>uP (fun (x:Nat)=>ofNat 0) 0 e) (fun (e:Nat)=>uL (fun (x:Nat)=>ofNat 0) 0 e) fun (e:Nat)=>uD (fun (x:Nat)=>ofNat 0) 0 e))) fun (x:Nat×Int)=>V.need (ofNat 50=(↑50:Int))
  (nN [(1,.eqI 3 3),(3,.eqI 1 1),(1,.eqI 256 256),(1,.eqI 1 1),(1,.eqI 3 3),(1,.eqI 7 7),(1,.eqI 8 8),(1,.eqI 9 9),(1,.eqI 10 10),(1,.eqI 13 13),(5,.eqI 0 0),(1,.eq 1293 1293),(1,.le 1293 1293),(1,.pf (∀ (e:Nat),e < 1293->ofNat 0=ofNat 0) (by intros; rfl)),(1,.eqI 9 9),(1,.eqI 0 0)]
  (V.need (pIJ (AP.mk (Ly.mk (ofNat 1) (ofNat 1) (ofNat 1) (ofNat 256) (ofNat 1) (ofNat 3) (ofNat 7) (ofNat 8) (ofNat 9) (ofNat 10) (ofNat 13)) 6 7 (NV.k 1293) (NV.k 1293) (Mm.mk (fun (e:Nat)=>ofNat 0) (ofNat 0) (ofNat 0) (ofNat 0) (ofNat 0) (ofNat 0))) 50)
  (nN [(1,.pf (∃ (x:Rs),x=inR (Ly.mk (ofNat 1) (ofNat 1) (ofNat 1) (ofNat 256) (ofNat 1) (ofNat 3) (ofNat 7) (ofNat 8) (ofNat 9) (ofNat 10) (ofNat 13)) 1293 (ofNat 9) (ofNat 0) 50 (Mm.mk (fun (e:Nat)=>ofNat 0) (ofNat 0) (ofNat 0) (ofNat 0) (ofNat 0) (ofNat 0))) ⟨_,rfl⟩)]
  (V.any Rs (fun (r:Rs)=>r=inR (Ly.mk (ofNat 1) (ofNat 1) (ofNat 1) (ofNat 256) (ofNat 1) (ofNat 3) (ofNat 7) (ofNat 8) (ofNat 9) (ofNat 10) (ofNat 13)) 1293 (ofNat 9) (ofNat 0) 50 (Mm.mk (fun (e:Nat)=>ofNat 0) (ofNat 0) (ofNat 0) (ofNat 0) (ofNat 0) (ofNat 0))) fun (x:Rs)=>V.need (ofNat 50=(↑50:Int))
  (nN [(1,.eqI 3 3),(3,.eqI 1 1),(1,.eqI 256 256),(1,.eqI 1 1),(1,.eqI 3 3),(1,.eqI 7 7),(1,.eqI 8 8),(1,.eqI 9 9),(1,.eqI 10 10),(1,.eqI 13 13),(1,.pf (x.m.lk=x.m.lk) rfl),(1,.pf (x.m.lc=x.m.lc) rfl),(1,.pf (x.m.lo=x.m.lo) rfl),(1,.pf (x.m.ln=x.m.ln) rfl),(1,.pf (x.m.ct=x.m.ct) rfl),(1,.eq 1293 1293),(1,.le 1293 1293),(1,.pf (∀ (e:Nat),e < 1293->x.m.g e=x.m.g e) (by intros; rfl)),(1,.eqI 4 4),(1,.eqI 1 1)]
  (V.need (pIJ (AP.mk (Ly.mk (ofNat 1) (ofNat 1) (ofNat 1) (ofNat 256) (ofNat 1) (ofNat 3) (ofNat 7) (ofNat 8) (ofNat 9) (ofNat 10) (ofNat 13)) 6 7 (NV.k 1293) (NV.k 1293) (Mm.mk (fun (e:Nat)=>x.m.g e) x.m.lk x.m.lc x.m.lo x.m.ln x.m.ct)) 50)
  (nN [(1,.pf (∃ (x_2:Rs),x_2=inR (Ly.mk (ofNat 1) (ofNat 1) (ofNat 1) (ofNat 256) (ofNat 1) (ofNat 3) (ofNat 7) (ofNat 8) (ofNat 9) (ofNat 10) (ofNat 13)) 1293 (ofNat 4) (ofNat 1) 50 (Mm.mk (fun (e:Nat)=>x.m.g e) x.m.lk x.m.lc x.m.lo x.m.ln x.m.ct)) ⟨_,rfl⟩)]
  (V.any Rs (fun (r:Rs)=>r=inR (Ly.mk (ofNat 1) (ofNat 1) (ofNat 1) (ofNat 256) (ofNat 1) (ofNat 3) (ofNat 7) (ofNat 8) (ofNat 9) (ofNat 10) (ofNat 13)) 1293 (ofNat 4) (ofNat 1) 50 (Mm.mk (fun (e:Nat)=>x.m.g e) x.m.lk x.m.lc x.m.lo x.m.ln x.m.ct)) fun (x_2:Rs)=>V.need (ofNat 50=(↑50:Int))
  (nN [(1,.eqI 3 3),(3,.eqI 1 1),(1,.eqI 256 256),(1,.eqI 1 1),(1,.eqI 3 3),(1,.eqI 7 7),(1,.eqI 8 8),(1,.eqI 9 9),(1,.eqI 10 10),(1,.eqI 13 13),(2,.eq 0 0),(1,.pf (x_2.m.lk=x_2.m.lk) rfl),(1,.pf (x_2.m.lc=x_2.m.lc) rfl),(1,.pf (x_2.m.lo=x_2.m.lo) rfl),(1,.pf (x_2.m.ln=x_2.m.ln) rfl),(1,.pf (x_2.m.ct=x_2.m.ct) rfl),(1,.eq 1293 1293),(1,.le 1293 1293),(1,.pf (∀ (e:Nat),e < 1293->x_2.m.g e=x_2.m.g e) (by intros; rfl)),(1,.eq 0 0),(1,.le 0 0),(5,.pf (∀ (e:Nat),e < 0->ofNat 0=ofNat 0) (by intros; rfl)),(1,.eqI 0 0)]
  (V.need (pIJ (AP.mk (Ly.mk (ofNat 1) (ofNat 1) (ofNat 1) (ofNat 256) (ofNat 1) (ofNat 3) (ofNat 7) (ofNat 8) (ofNat 9) (ofNat 10) (ofNat 13)) 6 7 (NV.k 1293) (NV.k 1293) (Mm.mk (fun (e:Nat)=>x_2.m.g e) x_2.m.lk x_2.m.lc x_2.m.lo x_2.m.ln x_2.m.ct)) 50/\0<=0/\0<=1000)
  (V.need (∃ (x:Re×Nat),x.fst=rmR (Ly.mk (ofNat 1) (ofNat 1) (ofNat 1) (ofNat 256) (ofNat 1) (ofNat 3) (ofNat 7) (ofNat 8) (ofNat 9) (ofNat 10) (ofNat 13)) 1293 (ofNat 0) 50 (Mm.mk (fun (e:Nat)=>x_2.m.g e) x_2.m.lk x_2.m.lc x_2.m.lo x_2.m.ln x_2.m.ct) (El.mk 0 (Evs.mk (fun (i:Nat)=>ofNat 0) (fun (i:Nat)=>ofNat 0) (fun (i:Nat)=>ofNat 0) (fun (i:Nat)=>ofNat 0) fun (i:Nat)=>ofNat 0))/\(rmR (Ly.mk (ofNat 1) (ofNat 1) (ofNat 1) (ofNat 256) (ofNat 1) (ofNat 3) (ofNat 7) (ofNat 8) (ofNat 9) (ofNat 10) (ofNat 13)) 1293 (ofNat 0) 50 (Mm.mk (fun (e:Nat)=>x_2.m.g e) x_2.m.lk x_2.m.lc x_2.m.lo x_2.m.ln x_2.m.ct) (El.mk 0 (Evs.mk (fun (i:Nat)=>ofNat 0) (fun (i:Nat)=>ofNat 0) (fun (i:Nat)=>ofNat 0) (fun (i:Nat)=>ofNat 0) fun (i:Nat)=>ofNat 0))).l.n<=x.snd)
  (V.any (Re×Nat) (fun (r:Re×Nat)=>r.fst=rmR (Ly.mk (ofNat 1) (ofNat 1) (ofNat 1) (ofNat 256) (ofNat 1) (ofNat 3) (ofNat 7) (ofNat 8) (ofNat 9) (ofNat 10) (ofNat 13)) 1293 (ofNat 0) 50 (Mm.mk (fun (e:Nat)=>x_2.m.g e) x_2.m.lk x_2.m.lc x_2.m.lo x_2.m.ln x_2.m.ct) (El.mk 0 (Evs.mk (fun (i:Nat)=>ofNat 0) (fun (i:Nat)=>ofNat 0) (fun (i:Nat)=>ofNat 0) (fun (i:Nat)=>ofNat 0) fun (i:Nat)=>ofNat 0))/\(rmR (Ly.mk (ofNat 1) (ofNat 1) (ofNat 1) (ofNat 256) (ofNat 1) (ofNat 3) (ofNat 7) (ofNat 8) (ofNat 9) (ofNat 10) (ofNat 13)) 1293 (ofNat 0) 50 (Mm.mk (fun (e:Nat)=>x_2.m.g e) x_2.m.lk x_2.m.lc x_2.m.lo x_2.m.ln x_2.m.ct) (El.mk 0 (Evs.mk (fun (i:Nat)=>ofNat 0) (fun (i:Nat)=>ofNat 0) (fun (i:Nat)=>ofNat 0) (fun (i:Nat)=>ofNat 0) fun (i:Nat)=>ofNat 0))).l.n<=r.snd) fun (x_3:Re×Nat)=>V.need (ofNat 50=(↑50:Int))
  (nN [(1,.eqI 3 3),(3,.eqI 1 1),(1,.eqI 256 256),(1,.eqI 1 1),(1,.eqI 3 3),(1,.eqI 7 7),(1,.eqI 8 8),(1,.eqI 9 9),(1,.eqI 10 10),(1,.eqI 13 13),(1,.pf (x_3.fst.l.n=x_3.fst.l.n) rfl),(1,.pf (x_3.snd=x_3.snd) rfl),(1,.pf (x_3.fst.m.lk=x_3.fst.m.lk) rfl),(1,.pf (x_3.fst.m.lc=x_3.fst.m.lc) rfl),(1,.pf (x_3.fst.m.lo=x_3.fst.m.lo) rfl),(1,.pf (x_3.fst.m.ln=x_3.fst.m.ln) rfl),(1,.pf (x_3.fst.m.ct=x_3.fst.m.ct) rfl),(1,.eq 1293 1293),(1,.le 1293 1293),(1,.pf (∀ (e:Nat),e < 1293->x_3.fst.m.g e=x_3.fst.m.g e) (by intros; rfl)),(1,.pf (x_3.snd=x_3.snd) rfl),(1,.pf (x_3.fst.l.n<=x_3.fst.l.n) (Nat.le_refl _)),(1,.pf (∀ (e:Nat),e < x_3.fst.l.n->x_3.fst.l.v.k e=x_3.fst.l.v.k e) (by intros; rfl)),(1,.pf (∀ (e:Nat),e < x_3.fst.l.n->x_3.fst.l.v.w e=x_3.fst.l.v.w e) (by intros; rfl)),(1,.pf (∀ (e:Nat),e < x_3.fst.l.n->x_3.fst.l.v.t e=x_3.fst.l.v.t e) (by intros; rfl)),(1,.pf (∀ (e:Nat),e < x_3.fst.l.n->x_3.fst.l.v.o e=x_3.fst.l.v.o e) (by intros; rfl)),(1,.pf (∀ (e:Nat),e < x_3.fst.l.n->x_3.fst.l.v.l e=x_3.fst.l.v.l e) (by intros; rfl)),(1,.eqI 0 0)]
  (V.need (pIJ (AP.mk (Ly.mk (ofNat 1) (ofNat 1) (ofNat 1) (ofNat 256) (ofNat 1) (ofNat 3) (ofNat 7) (ofNat 8) (ofNat 9) (ofNat 10) (ofNat 13)) 6 7 (NV.k 1293) (NV.k 1293) (Mm.mk (fun (e:Nat)=>x_3.fst.m.g e) x_3.fst.m.lk x_3.fst.m.lc x_3.fst.m.lo x_3.fst.m.ln x_3.fst.m.ct)) 50/\x_3.fst.l.n<=x_3.snd/\x_3.fst.l.n<=1000)
  (V.need (∃ (x:Re×Nat),x.fst=rmR (Ly.mk (ofNat 1) (ofNat 1) (ofNat 1) (ofNat 256) (ofNat 1) (ofNat 3) (ofNat 7) (ofNat 8) (ofNat 9) (ofNat 10) (ofNat 13)) 1293 (ofNat 0) 50 (Mm.mk (fun (e:Nat)=>x_3.fst.m.g e) x_3.fst.m.lk x_3.fst.m.lc x_3.fst.m.lo x_3.fst.m.ln x_3.fst.m.ct) (El.mk x_3.fst.l.n (Evs.mk (fun (i:Nat)=>x_3.fst.l.v.k i) (fun (i:Nat)=>x_3.fst.l.v.w i) (fun (i:Nat)=>x_3.fst.l.v.t i) (fun (i:Nat)=>x_3.fst.l.v.o i) fun (i:Nat)=>x_3.fst.l.v.l i))/\(rmR (Ly.mk (ofNat 1) (ofNat 1) (ofNat 1) (ofNat 256) (ofNat 1) (ofNat 3) (ofNat 7) (ofNat 8) (ofNat 9) (ofNat 10) (ofNat 13)) 1293 (ofNat 0) 50 (Mm.mk (fun (e:Nat)=>x_3.fst.m.g e) x_3.fst.m.lk x_3.fst.m.lc x_3.fst.m.lo x_3.fst.m.ln x_3.fst.m.ct) (El.mk x_3.fst.l.n (Evs.mk (fun (i:Nat)=>x_3.fst.l.v.k i) (fun (i:Nat)=>x_3.fst.l.v.w i) (fun (i:Nat)=>x_3.fst.l.v.t i) (fun (i:Nat)=>x_3.fst.l.v.o i) fun (i:Nat)=>x_3.fst.l.v.l i))).l.n<=x.snd)
  (V.any (Re×Nat) (fun (r:Re×Nat)=>r.fst=rmR (Ly.mk (ofNat 1) (ofNat 1) (ofNat 1) (ofNat 256) (ofNat 1) (ofNat 3) (ofNat 7) (ofNat 8) (ofNat 9) (ofNat 10) (ofNat 13)) 1293 (ofNat 0) 50 (Mm.mk (fun (e:Nat)=>x_3.fst.m.g e) x_3.fst.m.lk x_3.fst.m.lc x_3.fst.m.lo x_3.fst.m.ln x_3.fst.m.ct) (El.mk x_3.fst.l.n (Evs.mk (fun (i:Nat)=>x_3.fst.l.v.k i) (fun (i:Nat)=>x_3.fst.l.v.w i) (fun (i:Nat)=>x_3.fst.l.v.t i) (fun (i:Nat)=>x_3.fst.l.v.o i) fun (i:Nat)=>x_3.fst.l.v.l i))/\(rmR (Ly.mk (ofNat 1) (ofNat 1) (ofNat 1) (ofNat 256) (ofNat 1) (ofNat 3) (ofNat 7) (ofNat 8) (ofNat 9) (ofNat 10) (ofNat 13)) 1293 (ofNat 0) 50 (Mm.mk (fun (e:Nat)=>x_3.fst.m.g e) x_3.fst.m.lk x_3.fst.m.lc x_3.fst.m.lo x_3.fst.m.ln x_3.fst.m.ct) (El.mk x_3.fst.l.n (Evs.mk (fun (i:Nat)=>x_3.fst.l.v.k i) (fun (i:Nat)=>x_3.fst.l.v.w i) (fun (i:Nat)=>x_3.fst.l.v.t i) (fun (i:Nat)=>x_3.fst.l.v.o i) fun (i:Nat)=>x_3.fst.l.v.l i))).l.n<=r.snd) fun (x_4:Re×Nat)=>V.br (x.c == ofNat 0)
  (V.br (x.k == ofNat 4)
  (V.br (x_2.c == ofNat 0)
  (V.br (x_3.fst.c == ofNat 1)
  (V.br (x_3.fst.v == ofNat 1)
  (V.br (x_4.fst.c == ofNat 1)
  (V.br (x_4.fst.v == ofNat 0)
  (V.br (x_4.fst.k == ofNat 4)
  (V.need True
  (V.need (((↑x_4.fst.l.n:Int) == ofNat 2)=true) V.ok))
  (V.need True
  (V.need (false=true) V.ok)))
  (V.need True
  (V.need (false=true) V.ok)))
  (V.need True
  (V.need (false=true) V.ok)))
  (V.need True
  (V.need (false=true) V.ok)))
  (V.need True
  (V.need (false=true) V.ok)))
  (V.need True
  (V.need (false=true) V.ok)))
  (V.need True
  (V.need (false=true) V.ok)))
  (V.need True
  (V.need (false=true) V.ok)))))))))))))))))))))))))))))):=by kernel_rfl
end Go.Proofs.YtmbploaccpecbaaGreat.Md
/- The sanity check of chapter 16: the contract. -/
namespace Go.Proofs.YtmbploaccpecbaaGreat.Md
open Go Go.RowKit Sx Cn Dc Ck Vc
theorem pij3 {x:AP} (h:x.y.H=3):pIJ x 50:=⟨⟨by omega,by omega⟩,by decide⟩
theorem vhAw16:zae vAw16:=by
 constructor
 rw [vAw16_eq]
 (repeat' first | with_reducible exact V.okI | with_reducible refine V.anyCfg ?_ | with_reducible refine V.anyMm ?_ | with_reducible refine V.anyInt ?_ | with_reducible refine V.anyNat ?_ | with_reducible refine V.anyCl' ?_ | with_reducible refine nN_h rfl ?_ | with_reducible refine V.needI ?_ ?_ | with_reducible intro _)
 all_goals first
  | (first | rfl | exact True.intro | exact ⟨u8_0,by decide⟩ | exact ⟨(1,0,fun _=>0),Nat.le_refl _⟩ | exact ⟨Nat.le_refl _,by assumption⟩ | exact Nat.zero_le _ | exact ⟨Nat.zero_le _,Nat.zero_le _⟩ | exact ⟨(_,_),is_cl _,Nat.le_refl _⟩ | exact err9 (by unfold okN; simp only [Int.ofNat_eq_natCast]; omega) rfl rfl rfl | decide)
  | exact err9 (by unfold okN; dsimp only; omega) rfl rfl rfl
  | exact ⟨(_,_),is_cl _,Nat.le_refl _⟩
  | exact ⟨u8_0,by decide⟩
  | omega
  | skip
 refine V.anyI fun q _=>?_
 (repeat' first | with_reducible exact V.okI | with_reducible refine V.anyCfg ?_ | with_reducible refine V.anyMm ?_ | with_reducible refine V.anyInt ?_ | with_reducible refine V.anyNat ?_ | with_reducible refine V.anyCl' ?_ | with_reducible refine nN_h rfl ?_ | with_reducible refine V.needI ?_ ?_ | with_reducible intro _)
 all_goals first
  | rfl
  | exact True.intro
  | exact pij3 rfl
  | exact ⟨pij3 rfl,by decide,by decide⟩
  | exact ⟨(_,_),rfl,Nat.le_refl _⟩
  | skip
 refine V.anyI fun r1 h1=>?_
 subst h1
 (repeat' first | with_reducible exact V.okI | with_reducible refine V.anyCfg ?_ | with_reducible refine V.anyMm ?_ | with_reducible refine V.anyInt ?_ | with_reducible refine V.anyNat ?_ | with_reducible refine V.anyCl' ?_ | with_reducible refine nN_h rfl ?_ | with_reducible refine V.needI ?_ ?_ | with_reducible intro _)
 all_goals first
  | rfl
  | exact True.intro
  | exact pij3 rfl
  | exact ⟨pij3 rfl,by decide,by decide⟩
  | exact ⟨(_,_),rfl,Nat.le_refl _⟩
  | skip
 refine V.anyI fun r2 h2=>?_
 subst h2
 (repeat' first | with_reducible exact V.okI | with_reducible refine V.anyCfg ?_ | with_reducible refine V.anyMm ?_ | with_reducible refine V.anyInt ?_ | with_reducible refine V.anyNat ?_ | with_reducible refine V.anyCl' ?_ | with_reducible refine nN_h rfl ?_ | with_reducible refine V.needI ?_ ?_ | with_reducible intro _)
 all_goals first
  | rfl
  | exact True.intro
  | exact pij3 rfl
  | exact ⟨pij3 rfl,by decide,by decide⟩
  | exact ⟨(_,_),rfl,Nat.le_refl _⟩
  | skip
 refine V.anyI fun r3 h3=>?_
 obtain ⟨r3,n3⟩:=r3
 obtain ⟨h3,g3⟩:=h3
 dsimp only at h3 g3 ⊢
 subst h3
 (repeat' first | with_reducible exact V.okI | with_reducible refine V.anyCfg ?_ | with_reducible refine V.anyMm ?_ | with_reducible refine V.anyInt ?_ | with_reducible refine V.anyNat ?_ | with_reducible refine V.anyCl' ?_ | with_reducible refine nN_h rfl ?_ | with_reducible refine V.needI ?_ ?_ | with_reducible intro _)
 all_goals first
  | rfl
  | exact True.intro
  | exact pij3 rfl
  | exact ⟨pij3 rfl,by decide,by decide⟩
  | exact ⟨(_,_),rfl,Nat.le_refl _⟩
  | skip
 exact ⟨pij3 rfl,g3,show (rmR _ _ _ _ _ _).l.n<=1000 from by decide +kernel⟩
 refine V.anyI fun r4 h4=>?_
 obtain ⟨r4,n4⟩:=r4
 obtain ⟨h4,g4⟩:=h4
 dsimp only at h4 g4 ⊢
 subst h4
 (repeat' first | with_reducible exact V.okI | with_reducible refine V.brT ?_ | with_reducible refine V.brF ?_ | with_reducible refine V.brI ?_ ?_ | with_reducible refine V.anyI ?_ | with_reducible refine nN_h rfl ?_ | with_reducible refine V.needI ?_ ?_ | with_reducible intro _)
 all_goals first
  | exact True.intro
  | (rename_i h; exact absurd h (by decide +kernel))
  | decide +kernel
  | skip
theorem aw16_ok:zab P 9 conYes:=conYes_ok (zbt conIA_ok fun _=>vhAw16)
end Go.Proofs.YtmbploaccpecbaaGreat.Md
