/- The sanity check: the conditions, printed by program. -/
import Derived.Test.YtomaagmleafjeaaGreatMMdAw23D
import Derived.Test.YtomaagmleafjeaaGreatMW
import Derived.Test.YtomaagmleafjeaaGreatMNw
import Derived.Test.YtomaagmleafjeaaGreatMMd
import Derived.Test.YtomaagmleafjeaaGreatMMdBr
set_option linter.unusedVariables false
set_option linter.unusedSimpArgs false
set_option linter.unusedVariables false
set_option maxRecDepth 100000
namespace Go.Proofs.YtomaagmleafjeaaGreat.Md
open Go Go.RowKit Sx Cn Dc Ck Vc

theorem vAw23_eq  : vAw23 =
  V.need ((U8 0 fun (x : Nat) => Int.ofNat 0) ∧ 0 ≤ 9)
    (V.need (∃ (x : Nat × Nat × (Nat → Nat)), 1 ≤ x.fst)
    (V.any (Nat × Nat × (Nat → Nat)) (fun (x : Nat × Nat × (Nat → Nat)) => 1 ≤ x.fst) fun (x : Nat × Nat × (Nat → Nat)) => nN [(2, .eqI 2 2), (1, .eq 1 1), qE x.fst, (1, .eq 0 0), qE x.snd.fst, (2, .eq 3 3), (1, .le 1 1)]
    (V.need (1 ≤ 1 ∧ 1 ≤ x.fst)
    (nN [(1, .pf (∀ (i e : Nat), i = 0 ∧ e < 1 → e = e) (by intros; rfl)), (1, .pf (∀ (i e : Nat), i = 0 ∧ e < 1 → 0 = 0) (by intros; rfl)), (1, .pf (∀ (i e : Nat), i = 0 ∧ e < 1 → x.snd.snd e = x.snd.snd e) (by intros; rfl)), (1, .le 1 1)]
    (V.need (0 ≤ 0 ∧ 0 ≤ x.snd.fst)
    (nN [(1, .pf (∀ (i e : Nat), i = 0 ∧ e < 0 → uP (fun (x : Nat) => Int.ofNat 0) 0 e = uP (fun (x : Nat) => Int.ofNat 0) 0 e) (by intros; rfl)), (1, .pf (∀ (i e : Nat), i = 0 ∧ e < 0 → uL (fun (x : Nat) => Int.ofNat 0) 0 e = uL (fun (x : Nat) => Int.ofNat 0) 0 e) (by intros; rfl)), (1, .pf (∀ (i e : Nat), i = 0 ∧ e < 0 → uD (fun (x : Nat) => Int.ofNat 0) 0 e = uD (fun (x : Nat) => Int.ofNat 0) 0 e) (by intros; rfl))]
    (V.need (∀ (i : Nat), i < 1 → 0 ≤ gd 1 (fun (x : Nat) => 0) i ∧ 0 ≤ gd 1 x.snd.snd i)
    (nN [(1, .pf (∀ (i e : Nat), i < 1 ∧ e < 0 → cO (fun (x : Nat) => Int.ofNat 0) 0 i e = cO (fun (x : Nat) => Int.ofNat 0) 0 i e) (by intros; rfl)), (1, .pf (∀ (i e : Nat), i < 1 ∧ e < 0 → cA (fun (x : Nat) => Int.ofNat 0) 0 i e = cA (fun (x : Nat) => Int.ofNat 0) 0 i e) (by intros; rfl)), (1, .pf (∀ (i e : Nat), i < 1 ∧ e < 0 → cB (fun (x : Nat) => Int.ofNat 0) 0 i e = cB (fun (x : Nat) => Int.ofNat 0) 0 i e) (by intros; rfl)), (1, .le 1 1), (1, .le2 3 3 3 3)]
    (V.need (∀ (i e : Nat), i = 0 ∧ e < 3 → e < 3)
    (V.need (∀ (i e : Nat), i = 0 ∧ e < 3 → e = 0 → Int.ofNat 0 = numAt [SC.ki IntKind.u8 (Int.ofNat 0), SC.ki IntKind.u8 (Int.ofNat 0), SC.ki IntKind.u8 (Int.ofNat 0)] e)
    (V.need (∀ (i e : Nat), i = 0 ∧ e < 3 → e = 1 → Int.ofNat 0 = numAt [SC.ki IntKind.u8 (Int.ofNat 0), SC.ki IntKind.u8 (Int.ofNat 0), SC.ki IntKind.u8 (Int.ofNat 0)] e)
    (V.need (∀ (i e : Nat), i = 0 ∧ e < 3 → e = 2 → Int.ofNat 0 = numAt [SC.ki IntKind.u8 (Int.ofNat 0), SC.ki IntKind.u8 (Int.ofNat 0), SC.ki IntKind.u8 (Int.ofNat 0)] e)
    (V.need (errE (c23 (Cf.mk (Int.ofNat 1) (Int.ofNat 3) (Int.ofNat 1) (Int.ofNat 8) (Int.ofNat 2) (Int.ofNat 8) (Int.ofNat 2) (Int.ofNat 0) (Int.ofNat 1) 1 x.fst 0 x.snd.fst (fun (e : Nat) => 0) x.snd.snd (fun (i e : Nat) => cO (fun (x : Nat) => Int.ofNat 0) 0 i e) (fun (i e : Nat) => cA (fun (x : Nat) => Int.ofNat 0) 0 i e) (fun (i e : Nat) => cB (fun (x : Nat) => Int.ofNat 0) 0 i e) (fun (e : Nat) => uP (fun (x : Nat) => Int.ofNat 0) 0 e) (fun (e : Nat) => uL (fun (x : Nat) => Int.ofNat 0) 0 e) fun (e : Nat) => uD (fun (x : Nat) => Int.ofNat 0) 0 e)) = Int.ofNat 0)
    (V.need (∃ (x_1 : XFl), φFl (Cf.mk (Int.ofNat 1) (Int.ofNat 3) (Int.ofNat 1) (Int.ofNat 8) (Int.ofNat 2) (Int.ofNat 8) (Int.ofNat 2) (Int.ofNat 0) (Int.ofNat 1) 1 x.fst 0 x.snd.fst (fun (e : Nat) => 0) x.snd.snd (fun (i e : Nat) => cO (fun (x : Nat) => Int.ofNat 0) 0 i e) (fun (i e : Nat) => cA (fun (x : Nat) => Int.ofNat 0) 0 i e) (fun (i e : Nat) => cB (fun (x : Nat) => Int.ofNat 0) 0 i e) (fun (e : Nat) => uP (fun (x : Nat) => Int.ofNat 0) 0 e) (fun (e : Nat) => uL (fun (x : Nat) => Int.ofNat 0) 0 e) fun (e : Nat) => uD (fun (x : Nat) => Int.ofNat 0) 0 e) (fun (e : Nat) => numAt [SC.ki IntKind.u8 (Int.ofNat 0), SC.ki IntKind.u8 (Int.ofNat 0), SC.ki IntKind.u8 (Int.ofNat 0)] e) 3 x_1)
    (V.any XFl (φFl (Cf.mk (Int.ofNat 1) (Int.ofNat 3) (Int.ofNat 1) (Int.ofNat 8) (Int.ofNat 2) (Int.ofNat 8) (Int.ofNat 2) (Int.ofNat 0) (Int.ofNat 1) 1 x.fst 0 x.snd.fst (fun (e : Nat) => 0) x.snd.snd (fun (i e : Nat) => cO (fun (x : Nat) => Int.ofNat 0) 0 i e) (fun (i e : Nat) => cA (fun (x : Nat) => Int.ofNat 0) 0 i e) (fun (i e : Nat) => cB (fun (x : Nat) => Int.ofNat 0) 0 i e) (fun (e : Nat) => uP (fun (x : Nat) => Int.ofNat 0) 0 e) (fun (e : Nat) => uL (fun (x : Nat) => Int.ofNat 0) 0 e) fun (e : Nat) => uD (fun (x : Nat) => Int.ofNat 0) 0 e) (fun (e : Nat) => numAt [SC.ki IntKind.u8 (Int.ofNat 0), SC.ki IntKind.u8 (Int.ofNat 0), SC.ki IntKind.u8 (Int.ofNat 0)] e) 3) fun (x : XFl) => V.need (Int.ofNat 300 = (↑300 : Int))
    (nN [(1, .eqI 1 1), (1, .eqI 3 3), (1, .eqI 8 8), (1, .eqI 2 2), (1, .eqI 8 8), (1, .eqI 2 2), (1, .eqI 0 0), (1, .eqI 1 1), qE x.d.nP, qE x.d.rc, qE x.d.nU, qE x.d.cu, (1, .eqI 1 1), (1, .eqI 3 3), (1, .eqI 1 1), (1, .eqI 8 8), (1, .eqI 2 2), (1, .eqI 8 8), (1, .eqI 12 12), (1, .eqI 13 13), (1, .eqI 14 14), (1, .eqI 15 15), qE x.tb, (2, .eq 0 0), qE x.n, qE x.n, qE x.m.lk, qE x.m.lc, qE x.m.lo, qE x.m.ln, qE x.m.ct, qE x.n, qL x.n, qF x.n x.m.g, (1, .eq 0 0), (1, .le 0 0), qF 0 (fun (e : Nat) => Int.ofNat 0), qF 0 (fun (e : Nat) => Int.ofNat 0), qF 0 (fun (e : Nat) => Int.ofNat 0), qF 0 (fun (e : Nat) => Int.ofNat 0), qF 0 (fun (e : Nat) => Int.ofNat 0), (1, .le 0 1)]
    (V.need (0 ≤ x.d.nP ∧ 0 ≤ x.d.rc)
    (nN [(1, .le 0 1)]
    (V.need (0 ≤ x.d.nU ∧ 0 ≤ x.d.cu)
    (nN [(1, .eqI 0 0)]
    (V.need (preDr (Ly.mk (Int.ofNat 1) (Int.ofNat 3) (Int.ofNat 1) (Int.ofNat 8) (Int.ofNat 2) (Int.ofNat 8) (Int.ofNat 12) (Int.ofNat 13) (Int.ofNat 14) (Int.ofNat 15) x.tb) (Int.ofNat 2) x.n (Int.ofNat 0) 300 x.m (El.mk 0 (Evs.mk (fun (i : Nat) => Int.ofNat 0) (fun (i : Nat) => Int.ofNat 0) (fun (i : Nat) => Int.ofNat 0) (fun (i : Nat) => Int.ofNat 0) fun (i : Nat) => Int.ofNat 0)) 0)
    (V.need (∃ (x_1 : Re × Nat), φDr (Ly.mk (Int.ofNat 1) (Int.ofNat 3) (Int.ofNat 1) (Int.ofNat 8) (Int.ofNat 2) (Int.ofNat 8) (Int.ofNat 12) (Int.ofNat 13) (Int.ofNat 14) (Int.ofNat 15) x.tb) (Int.ofNat 2) x.n (Int.ofNat 0) 300 x.m (El.mk 0 (Evs.mk (fun (i : Nat) => Int.ofNat 0) (fun (i : Nat) => Int.ofNat 0) (fun (i : Nat) => Int.ofNat 0) (fun (i : Nat) => Int.ofNat 0) fun (i : Nat) => Int.ofNat 0)) x_1)
    (V.any (Re × Nat) (φDr (Ly.mk (Int.ofNat 1) (Int.ofNat 3) (Int.ofNat 1) (Int.ofNat 8) (Int.ofNat 2) (Int.ofNat 8) (Int.ofNat 12) (Int.ofNat 13) (Int.ofNat 14) (Int.ofNat 15) x.tb) (Int.ofNat 2) x.n (Int.ofNat 0) 300 x.m (El.mk 0 (Evs.mk (fun (i : Nat) => Int.ofNat 0) (fun (i : Nat) => Int.ofNat 0) (fun (i : Nat) => Int.ofNat 0) (fun (i : Nat) => Int.ofNat 0) fun (i : Nat) => Int.ofNat 0))) fun (x_1 : Re × Nat) => nN [(1, .eqI 2 2), qE x.n, qE x.n, qE x_1.fst.m.ct, (1, .le 1 1)]
    (V.need (x.n ≤ x.n ∧ x.n ≤ x.n)
    (nN [(1, .pf (∀ (i e : Nat), i = 0 ∧ e < x.n → x_1.fst.m.g e = x_1.fst.m.g e) (by intros; rfl)), qX (x_1.fst.m.val x.n (Int.ofNat 2))]
    (V.any Int (fun (v : Int) => v = x_1.fst.m.val x.n (Int.ofNat 2)) fun (x_2 : Int) => V.need (Int.ofNat 300 = (↑300 : Int))
    (nN [(1, .eqI 1 1), (1, .eqI 3 3), (1, .eqI 8 8), (1, .eqI 2 2), (1, .eqI 8 8), (1, .eqI 2 2), (1, .eqI 0 0), (1, .eqI 1 1), qE x.d.nP, qE x.d.rc, qE x.d.nU, qE x.d.cu, (1, .eqI 1 1), (1, .eqI 3 3), (1, .eqI 1 1), (1, .eqI 8 8), (1, .eqI 2 2), (1, .eqI 8 8), (1, .eqI 12 12), (1, .eqI 13 13), (1, .eqI 14 14), (1, .eqI 15 15), qE x.tb, qE x_1.fst.l.n, qE x_1.snd, qE x.n, qE x.n, qE x_1.fst.m.lk, qE x_1.fst.m.lc, qE x_1.fst.m.lo, qE x_1.fst.m.ln, qE x_1.fst.m.ct, qE x.n, qL x.n, qF x.n x_1.fst.m.g, qE x_1.snd, qL x_1.fst.l.n, qF x_1.fst.l.n x_1.fst.l.v.k, qF x_1.fst.l.n x_1.fst.l.v.w, qF x_1.fst.l.n x_1.fst.l.v.t, qF x_1.fst.l.n x_1.fst.l.v.o, qF x_1.fst.l.n x_1.fst.l.v.l, (1, .le 0 1)]
    (V.need (0 ≤ x.d.nP ∧ 0 ≤ x.d.rc)
    (nN [(1, .le 0 1)]
    (V.need (0 ≤ x.d.nU ∧ 0 ≤ x.d.cu)
    (nN [(1, .eqI 0 0)]
    (V.need (preDr (Ly.mk (Int.ofNat 1) (Int.ofNat 3) (Int.ofNat 1) (Int.ofNat 8) (Int.ofNat 2) (Int.ofNat 8) (Int.ofNat 12) (Int.ofNat 13) (Int.ofNat 14) (Int.ofNat 15) x.tb) (Int.ofNat 2) x.n (Int.ofNat 0) 300 x_1.fst.m x_1.fst.l x_1.snd)
    (V.need (∃ (x_3 : Re × Nat), φDr (Ly.mk (Int.ofNat 1) (Int.ofNat 3) (Int.ofNat 1) (Int.ofNat 8) (Int.ofNat 2) (Int.ofNat 8) (Int.ofNat 12) (Int.ofNat 13) (Int.ofNat 14) (Int.ofNat 15) x.tb) (Int.ofNat 2) x.n (Int.ofNat 0) 300 x_1.fst.m x_1.fst.l x_3)
    (V.any (Re × Nat) (φDr (Ly.mk (Int.ofNat 1) (Int.ofNat 3) (Int.ofNat 1) (Int.ofNat 8) (Int.ofNat 2) (Int.ofNat 8) (Int.ofNat 12) (Int.ofNat 13) (Int.ofNat 14) (Int.ofNat 15) x.tb) (Int.ofNat 2) x.n (Int.ofNat 0) 300 x_1.fst.m x_1.fst.l) fun (x_3 : Re × Nat) => V.need (Int.ofNat 300 = (↑300 : Int))
    (nN [(1, .eqI 1 1), (1, .eqI 3 3), (1, .eqI 8 8), (1, .eqI 2 2), (1, .eqI 8 8), (1, .eqI 2 2), (1, .eqI 0 0), (1, .eqI 1 1), qE x.d.nP, qE x.d.rc, qE x.d.nU, qE x.d.cu, (1, .eqI 1 1), (1, .eqI 3 3), (1, .eqI 1 1), (1, .eqI 8 8), (1, .eqI 2 2), (1, .eqI 8 8), (1, .eqI 12 12), (1, .eqI 13 13), (1, .eqI 14 14), (1, .eqI 15 15), qE x.tb, qE x_3.fst.l.n, qE x_3.snd, qE x.n, qE x.n, qE x_3.fst.m.lk, qE x_3.fst.m.lc, qE x_3.fst.m.lo, qE x_3.fst.m.ln, qE x_3.fst.m.ct, qE x.n, qL x.n, qF x.n x_3.fst.m.g, qE x_3.snd, qL x_3.fst.l.n, qF x_3.fst.l.n x_3.fst.l.v.k, qF x_3.fst.l.n x_3.fst.l.v.w, qF x_3.fst.l.n x_3.fst.l.v.t, qF x_3.fst.l.n x_3.fst.l.v.o, qF x_3.fst.l.n x_3.fst.l.v.l, (1, .le 0 1)]
    (V.need (0 ≤ x.d.nP ∧ 0 ≤ x.d.rc)
    (nN [(1, .le 0 1)]
    (V.need (0 ≤ x.d.nU ∧ 0 ≤ x.d.cu)
    (nN [(1, .eqI 0 0)]
    (V.need (preDr (Ly.mk (Int.ofNat 1) (Int.ofNat 3) (Int.ofNat 1) (Int.ofNat 8) (Int.ofNat 2) (Int.ofNat 8) (Int.ofNat 12) (Int.ofNat 13) (Int.ofNat 14) (Int.ofNat 15) x.tb) (Int.ofNat 2) x.n (Int.ofNat 0) 300 x_3.fst.m x_3.fst.l x_3.snd)
    (V.need (∃ (x_4 : Re × Nat), φDr (Ly.mk (Int.ofNat 1) (Int.ofNat 3) (Int.ofNat 1) (Int.ofNat 8) (Int.ofNat 2) (Int.ofNat 8) (Int.ofNat 12) (Int.ofNat 13) (Int.ofNat 14) (Int.ofNat 15) x.tb) (Int.ofNat 2) x.n (Int.ofNat 0) 300 x_3.fst.m x_3.fst.l x_4)
    (V.any (Re × Nat) (φDr (Ly.mk (Int.ofNat 1) (Int.ofNat 3) (Int.ofNat 1) (Int.ofNat 8) (Int.ofNat 2) (Int.ofNat 8) (Int.ofNat 12) (Int.ofNat 13) (Int.ofNat 14) (Int.ofNat 15) x.tb) (Int.ofNat 2) x.n (Int.ofNat 0) 300 x_3.fst.m x_3.fst.l) fun (x_4 : Re × Nat) => V.br (x_1.fst.c == Int.ofNat 0)
    (V.br (x_1.fst.v == Int.ofNat 2)
    (V.br (x_2 == Int.ofNat 1)
    (V.br (x_3.fst.c == Int.ofNat 1)
    (V.br (x_3.fst.v == Int.ofNat 2)
    (V.br (x_4.fst.c == Int.ofNat 2)
    (V.br (x_4.fst.k == Int.ofNat 1)
    (nN [(1, .eqI 1 1), qE x.n, qE x.n, qE x_4.fst.m.ct, (1, .le 1 1)]
    (V.need (x.n ≤ x.n ∧ x.n ≤ x.n)
    (nN [(1, .pf (∀ (i e : Nat), i = 0 ∧ e < x.n → x_4.fst.m.g e = x_4.fst.m.g e) (by intros; rfl)), qX (x_4.fst.m.val x.n (Int.ofNat 1))]
    (V.any Int (fun (v : Int) => v = x_4.fst.m.val x.n (Int.ofNat 1)) fun (x : Int) => V.need True
    (V.need ((x == Int.ofNat 0) = true) V.ok)))))
    (V.need True
    (V.need (false = true) V.ok)))
    (V.need True
    (V.need (false = true) V.ok)))
    (V.need True
    (V.need (false = true) V.ok)))
    (V.need True
    (V.need (false = true) V.ok)))
    (V.need True
    (V.need (false = true) V.ok)))
    (V.need True
    (V.need (false = true) V.ok)))
    (V.need True
    (V.need (false = true) V.ok)))))))))))))))))))))))))))))))))))))))))))) := by kernel_rfl


end Go.Proofs.YtomaagmleafjeaaGreat.Md

/- The sanity check of chapter 23: the contract. -/
set_option linter.unusedVariables false
set_option linter.unusedSimpArgs false
set_option maxRecDepth 100000
namespace Go.Proofs.YtomaagmleafjeaaGreat.Md
open Go Go.RowKit Sx Cn Dc Ck Vc
theorem drOKF {D tb : Int} (hD : 1 ≤ D ∧ D ≤ 64) (ht : 0 ≤ tb ∧ tb ≤ 1000) : DrOK (yF D tb) 0 := by
  have e : IntKind.i64.wrap (tb + 1) = tb + 1 := w64 (by omega)
  refine ⟨by show (0 : Int) ≤ 8 ∧ (8 : Int) ≤ 1000; decide, ⟨by show (0 : Int) ≤ 1 ∧ (1 : Int) ≤ 16; decide, by show (0 : Int) ≤ 3 ∧ (3 : Int) ≤ 64; decide, by show 0 ≤ D ∧ D ≤ 64; omega, by show (0 : Int) ≤ 15 ∧ (15 : Int) ≤ 1000; decide⟩,
    ⟨fun _ _ => by decide, by show (0 : Int) ≤ 14 ∧ (14 : Int) ≤ 1000000; decide⟩, ⟨fun _ _ => by decide, by show (0 : Int) ≤ 12 ∧ (12 : Int) ≤ 1000000; decide⟩, fun t => ?_, by show (3 : Int) ≠ 0; decide⟩
  show okAtT t 8 (IntKind.i64.wrap (tb + 1)) 5
  rw [e]
  exact ⟨fun h0 h1 => by omega, by omega⟩
def e0 : El := ⟨0, ⟨fun _ => 0, fun _ => 0, fun _ => 0, fun _ => 0, fun _ => 0⟩⟩
def g3 : Nat → Int := fun e => numAt [SC.ki IntKind.u8 (Int.ofNat 0), SC.ki IntKind.u8 (Int.ofNat 0), SC.ki IntKind.u8 (Int.ofNat 0)] e
def aw1 : Option Re := drR (yF 2 27) 67 0 2 300 (filM 2 27 67 g3 3) e0
def aw2 : Option Re := aw1.bind fun r => drR (yF 2 27) 67 0 2 300 r.m r.l
def aw3 : Option Re := aw2.bind fun r => drR (yF 2 27) 67 0 2 300 r.m r.l
theorem aw1_e : (aw1.map fun r => (r.c, r.v, r.m.val 67 2, r.l.n)) = some (0, 2, 1, 2) := by decide +kernel
theorem aw2_e : (aw2.map fun r => (r.c, r.v, r.l.n)) = some (1, 2, 3) := by decide +kernel
theorem aw3_e : (aw3.map fun r => (r.c, r.k, r.m.val 67 1)) = some (2, 1, 0) := by decide +kernel
theorem map_e {α β : Type} {o : Option α} {f : α → β} {v : β} {r : α} (h : o.map f = some v) (hr : o = some r) : f r = v := by
  subst hr
  exact Option.some.inj h
theorem some_of {α β : Type} {o : Option α} {f : α → β} {v : β} (h : o.map f = some v) : ∃ r, o = some r := by
  cases o with
  | none => cases h
  | some r => exact ⟨r, rfl⟩
theorem ex_fl {c : Cf} {g : Nat → Int} {len : Nat} : ∃ x, φFl c g len x := ⟨⟨clOf (c23 c) _ _ _, 8, ncN (c23 c), lT (c23 c), filM c.D (lT (c23 c)) (ncN (c23 c)) g (min len 8)⟩, is_cl _, Nat.le_refl _, ⟨rfl, rfl⟩, rfl⟩
theorem err23 {c : Cf} (h : okN (c23 c)) (h1 : (c23 c).nP = 1) (h2 : (c23 c).lenP 0 = 0) (h3 : (c23 c).nU = 0) : errE (c23 c) = 0 := err9 h h1 h2 h3
theorem vhAw23 : VHolds vAw23 := by
  constructor
  rw [vAw23_eq]
  (repeat' first | with_reducible exact V.okI | with_reducible refine V.anyCfg ?_ | with_reducible refine V.anyMm ?_ | with_reducible refine V.anyInt ?_ | with_reducible refine V.anyNat ?_ | with_reducible refine V.anyCl' ?_ | with_reducible refine nN_h rfl ?_ | with_reducible refine V.needI ?_ ?_ | with_reducible intro _)
  all_goals first
    | (first | rfl | exact True.intro | exact ⟨u8_0, by decide⟩ | exact ⟨(1, 0, fun _ => 0), Nat.le_refl _⟩ | exact ⟨Nat.le_refl _, by assumption⟩ | exact Nat.zero_le _ | exact ⟨Nat.zero_le _, Nat.zero_le _⟩ | exact ⟨(_, _), is_cl _, Nat.le_refl _⟩ | exact err9 (by unfold okN; simp only [Int.ofNat_eq_natCast]; omega) rfl rfl rfl | decide)
    | exact err23 (by unfold okN c23; dsimp only; simp only [Int.ofNat_eq_natCast]; omega) rfl rfl rfl
    | exact ex_fl
    | exact ⟨u8_0, by decide⟩
    | omega
    | skip
  all_goals try (subst_vars; rfl)
  all_goals try exact And.right ‹_ = 0 ∧ _ < 3›
  refine V.anyI fun x hx => ?_
  obtain ⟨d, rc, n, tb, m⟩ := x
  obtain ⟨hcl, hrc, ⟨hn, ht⟩, hm⟩ := hx
  dsimp only at hcl hrc hn ht hm ⊢
  have hn : n = 67 := by
    have := ncN23 (c := Cf.mk 1 3 1 8 2 8 2 0 1 0 0 0 0 (fun _ => 0) (fun _ => 0) (fun _ _ => 0) (fun _ _ => 0) (fun _ _ => 0) (fun _ => 0) (fun _ => 0) (fun _ => 0)) (by decide)
    rw [hn]
    have h2 : ((ncN (c23 (Cf.mk 1 3 1 8 2 8 2 0 1 0 0 0 0 (fun _ => 0) (fun _ => 0) (fun _ _ => 0) (fun _ _ => 0) (fun _ _ => 0) (fun _ => 0) (fun _ => 0) (fun _ => 0))) : Nat) : Int) = 61 + 3 * 2 := this
    exact (by omega : ncN (c23 (Cf.mk 1 3 1 8 2 8 2 0 1 0 0 0 0 (fun _ => 0) (fun _ => 0) (fun _ _ => 0) (fun _ _ => 0) (fun _ _ => 0) (fun _ => 0) (fun _ => 0) (fun _ => 0))) = 67)
  have ht : tb = 27 := by rw [ht, lT23]; rfl
  subst hn ht
  have hm : m = filM 2 27 67 g3 3 := hm
  subst hm
  clear hcl hrc
  have hy : DrOK (yF 2 27) 0 := drOKF (by decide) (by decide)
  obtain ⟨R1, h1⟩ := some_of aw1_e
  have f1 := map_e aw1_e h1
  obtain ⟨R2, h2⟩ := some_of aw2_e
  have f2 := map_e aw2_e h2
  obtain ⟨R3, h3⟩ := some_of aw3_e
  have f3 := map_e aw3_e h3
  unfold aw2 at h2
  rw [h1] at h2
  unfold aw3 aw2 at h3
  rw [h1] at h3
  have h3 : (drR (yF 2 27) 67 0 2 300 R1.m R1.l).bind (fun r => drR (yF 2 27) 67 0 2 300 r.m r.l) = some R3 := h3
  have h2 : drR (yF 2 27) 67 0 2 300 R1.m R1.l = some R2 := h2
  rw [h2] at h3
  have h3 : drR (yF 2 27) 67 0 2 300 R2.m R2.l = some R3 := h3
  obtain ⟨a1, a2, a3, a4⟩ : R1.c = 0 ∧ R1.v = 2 ∧ R1.m.val 67 2 = 1 ∧ R1.l.n = 2 := by injection f1 with x1 y1; injection y1 with x2 y2; injection y2 with x3 x4; exact ⟨x1, x2, x3, x4⟩
  obtain ⟨b1, b2, b3⟩ : R2.c = 1 ∧ R2.v = 2 ∧ R2.l.n = 3 := by injection f2 with x1 y1; injection y1 with x2 x3; exact ⟨x1, x2, x3⟩
  obtain ⟨d1, d2, d3⟩ : R3.c = 2 ∧ R3.k = 1 ∧ R3.m.val 67 1 = 0 := by injection f3 with x1 y1; injection y1 with x2 x3; exact ⟨x1, x2, x3⟩
  ((repeat' first | with_reducible refine nN_h rfl ?_ | with_reducible refine V.brT ?_ | with_reducible refine V.brF ?_ | with_reducible refine V.needI ?_ ?_) <;> (try first | with_reducible exact V.okI | exact rfl | exact ⟨Nat.le_refl _, rfl⟩ | exact Nat.le_refl _ | assumption | omega | trivial | decide | (intros; rfl) | (intros; trivial)))
  · exact ⟨hy, by decide, ⟨Nat.le_refl _, by decide⟩, R1, h1⟩
  · exact ⟨(R1, R1.l.n), h1, Nat.le_refl _⟩
  refine V.anyI fun r hr => ?_
  obtain ⟨r, nr⟩ := r
  obtain ⟨hr, hnr⟩ := hr
  obtain rfl : R1 = r := Option.some.inj (h1.symm.trans hr)
  dsimp only at hnr ⊢
  ((repeat' first | with_reducible refine nN_h rfl ?_ | with_reducible refine V.brT ?_ | with_reducible refine V.brF ?_ | with_reducible refine V.needI ?_ ?_) <;> (try first | with_reducible exact V.okI | exact rfl | exact ⟨Nat.le_refl _, rfl⟩ | exact Nat.le_refl _ | assumption | omega | trivial | decide | (intros; rfl) | (intros; trivial)))
  refine V.anyI fun v hv => ?_
  ((repeat' first | with_reducible refine nN_h rfl ?_ | with_reducible refine V.brT ?_ | with_reducible refine V.brF ?_ | with_reducible refine V.needI ?_ ?_) <;> (try first | with_reducible exact V.okI | exact rfl | exact ⟨Nat.le_refl _, rfl⟩ | exact Nat.le_refl _ | assumption | omega | trivial | decide | (intros; rfl) | (intros; trivial)))
  · exact ⟨hy, by decide, ⟨hnr, by omega⟩, R2, h2⟩
  · exact ⟨(R2, R2.l.n), h2, Nat.le_refl _⟩
  refine V.anyI fun q hq => ?_
  obtain ⟨q, nq⟩ := q
  obtain ⟨hq, hnq⟩ := hq
  obtain rfl : R2 = q := Option.some.inj (h2.symm.trans hq)
  dsimp only at hnq ⊢
  ((repeat' first | with_reducible refine nN_h rfl ?_ | with_reducible refine V.brT ?_ | with_reducible refine V.brF ?_ | with_reducible refine V.needI ?_ ?_) <;> (try first | with_reducible exact V.okI | exact rfl | exact ⟨Nat.le_refl _, rfl⟩ | exact Nat.le_refl _ | assumption | omega | trivial | decide | (intros; rfl) | (intros; trivial)))
  · exact ⟨hy, by decide, ⟨hnq, by omega⟩, R3, h3⟩
  · exact ⟨(R3, R3.l.n), h3, Nat.le_refl _⟩
  refine V.anyI fun t ht => ?_
  obtain ⟨t, nt⟩ := t
  obtain ⟨ht, hnt⟩ := ht
  obtain rfl : R3 = t := Option.some.inj (h3.symm.trans ht)
  dsimp only at hnt ⊢
  have hv : v = 1 := by rw [hv]; exact a3
  rw [a1, a2, hv, b1, b2, d1, d2]
  ((repeat' first | with_reducible refine nN_h rfl ?_ | with_reducible refine V.brT ?_ | with_reducible refine V.brF ?_ | with_reducible refine V.needI ?_ ?_) <;> (try first | with_reducible exact V.okI | exact rfl | exact ⟨Nat.le_refl _, rfl⟩ | exact Nat.le_refl _ | assumption | omega | trivial | decide | (intros; rfl) | (intros; trivial)))
  all_goals try trivial
  refine V.brI (fun _ => ?_) fun h => absurd h (by decide)
  refine V.brI (fun _ => ?_) fun h => absurd h (by decide)
  refine V.brI (fun _ => ?_) fun h => absurd h (by decide)
  refine V.brI (fun _ => ?_) fun h => absurd h (by decide)
  refine V.brI (fun _ => ?_) fun h => absurd h (by decide)
  refine V.brI (fun _ => ?_) fun h => absurd h (by decide)
  refine V.brI (fun _ => ?_) fun h => absurd h (by decide)
  ((repeat' first | with_reducible refine nN_h rfl ?_ | with_reducible refine V.brT ?_ | with_reducible refine V.brF ?_ | with_reducible refine V.needI ?_ ?_) <;> (try first | with_reducible exact V.okI | exact rfl | exact ⟨Nat.le_refl _, rfl⟩ | exact Nat.le_refl _ | assumption | omega | trivial | decide | (intros; rfl) | (intros; trivial)))
  refine V.anyI fun z hz => ?_
  have hz : z = 0 := by rw [hz]; exact d3
  subst hz
  ((repeat' first | with_reducible refine nN_h rfl ?_ | with_reducible refine V.brT ?_ | with_reducible refine V.brF ?_ | with_reducible refine V.needI ?_ ?_) <;> (try first | with_reducible exact V.okI | exact rfl | exact ⟨Nat.le_refl _, rfl⟩ | exact Nat.le_refl _ | assumption | omega | trivial | decide | (intros; rfl) | (intros; trivial)))
theorem aw23_ok : ContractOK P 7 conYes := conYes_ok (local_of_ps con23a_ok fun _ => vhAw23)
end Go.Proofs.YtomaagmleafjeaaGreat.Md
