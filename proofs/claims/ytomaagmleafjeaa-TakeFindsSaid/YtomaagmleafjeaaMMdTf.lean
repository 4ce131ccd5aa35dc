/- TakeFinds: the conditions, printed by program. -/
import Derived.Test.YtomaagmleafjeaaMMdTfD
import Derived.Test.YtomaagmleafjeaaMW
import Derived.Test.YtomaagmleafjeaaMMdBr
set_option linter.unusedVariables false
set_option linter.unusedSimpArgs false
set_option linter.unusedVariables false
set_option maxRecDepth 100000
namespace Go.Proofs.Ytomaagmleafjeaa.Md
open Go Go.RowKit Sx Cn Dc Ck Vc

set_option maxHeartbeats 8000000 in
theorem verTf_eq (g s : Nat → Int) (lg cg ls cs : Nat) (I1 : XF → Prop) (I2 : Int → XF → Prop) (I3 : Nat → Prop) : verTf g s lg cg ls cs I1 I2 I3 =
  nN [qE lg, qE cg, qE ls, qE cs, (1, .le 1 1), (1, .pf (∀ (i : Nat), i < 1 → lg ≤ lg) (by intros; exact Nat.le_refl _)), (1, .pf (∀ (i e : Nat), i < 1 ∧ e < lg → g e = g e) (by intros; rfl)), (1, .le 1 1), (1, .pf (∀ (i : Nat), i < 1 → ls ≤ ls) (by intros; exact Nat.le_refl _)), (1, .pf (∀ (i e : Nat), i < 1 ∧ e < ls → s e = s e) (by intros; rfl))]
    (V.need True
    (V.need (∃ (x : XLa), φLa g s lg ls x)
    (V.any XLa (φLa g s lg ls) fun (x : XLa) => V.need True
    (V.need ((U8 0 fun (x : Nat) => Int.ofNat 0) ∧ 0 ≤ 9)
    (V.need (∃ (x : Nat × Nat × (Nat → Nat)), 1 ≤ x.fst)
    (V.any (Nat × Nat × (Nat → Nat)) (fun (x : Nat × Nat × (Nat → Nat)) => 1 ≤ x.fst) fun (x_1 : Nat × Nat × (Nat → Nat)) => V.need (I1 (XF.mk (Int.ofNat 2) 0 0 (fun (e : Nat) => Int.ofNat 0) (Int.negSucc 0) (Int.negSucc 0) (Int.ofNat 0)))
    (nN [(1, .eqI 2 2), (2, .eq 0 0), qE (Int.negSucc 0), qE (Int.negSucc 0), (1, .eqI 0 0), (1, .eq 0 0), (1, .le 0 0), qF 0 (fun (e : Nat) => Int.ofNat 0)]
    (V.any XF I1 fun (x_2 : XF) => V.br (decide (x_2.i ≥ Int.ofNat 0))
    (V.br (decide (x_2.w < Int.ofNat 0))
    (nN [(17, .lt2 0 1 0 1), (2, .eq 83 83), (1, .le 1 1), (1, .pf (∀ (i : Nat), i < 1 → 83 ≤ 83) (by intros; exact Nat.le_refl _)), (1, .pf (∀ (i e : Nat), i < 1 ∧ e < 83 → x.m.g e = x.m.g e) (by intros; rfl)), (1, .le 83 1000000)]
    (V.need (∃ (x : Nat), 83 ≤ x)
    (V.any Nat (fun (c : Nat) => 83 ≤ c) fun (x_3 : Nat) => nN [(1, .eqI 1 1), (1, .eqI 3 3), (1, .eqI 1 1), (1, .eqI 9 9), (1, .eqI 8 8), (2, .eqI 1 1), (1, .eqI 0 0), (1, .eqI 1 1), (1, .eq 1 1), qE x_1.fst, (1, .eq 0 0), qE x_1.snd.fst, (1, .eq 83 83), qE x_3, qE x_2.i, (1, .le 1 1), (1, .pf (∀ (i : Nat), i < 1 → 1 ≤ 1) (by intros; exact Nat.le_refl _)), (1, .pf (∀ (i e : Nat), i < 1 ∧ e < 1 → e = e) (by intros; rfl)), (1, .pf (∀ (i e : Nat), i < 1 ∧ e < 1 → 0 = 0) (by intros; rfl)), (1, .pf (∀ (i e : Nat), i < 1 ∧ e < 1 → x_1.snd.snd e = x_1.snd.snd e) (by intros; rfl)), (1, .le 1 1), (1, .pf (∀ (i : Nat), i < 1 → 0 ≤ 0) (by intros; exact Nat.le_refl _)), (1, .pf (∀ (i e : Nat), i < 1 ∧ e < 0 → uP (fun (x : Nat) => Int.ofNat 0) 0 e = uP (fun (x : Nat) => Int.ofNat 0) 0 e) (by intros; rfl)), (1, .pf (∀ (i e : Nat), i < 1 ∧ e < 0 → uL (fun (x : Nat) => Int.ofNat 0) 0 e = uL (fun (x : Nat) => Int.ofNat 0) 0 e) (by intros; rfl)), (1, .pf (∀ (i e : Nat), i < 1 ∧ e < 0 → uD (fun (x : Nat) => Int.ofNat 0) 0 e = uD (fun (x : Nat) => Int.ofNat 0) 0 e) (by intros; rfl))]
    (V.need (∀ (i : Nat), i < 1 → 0 ≤ gd 1 (fun (x : Nat) => 0) i ∧ 0 ≤ gd 1 x_1.snd.snd i)
    (nN [(1, .pf (∀ (i e : Nat), i < 1 ∧ e < 0 → cO (fun (x : Nat) => Int.ofNat 0) 0 i e = cO (fun (x : Nat) => Int.ofNat 0) 0 i e) (by intros; rfl)), (1, .pf (∀ (i e : Nat), i < 1 ∧ e < 0 → cA (fun (x : Nat) => Int.ofNat 0) 0 i e = cA (fun (x : Nat) => Int.ofNat 0) 0 i e) (by intros; rfl)), (1, .pf (∀ (i e : Nat), i < 1 ∧ e < 0 → cB (fun (x : Nat) => Int.ofNat 0) 0 i e = cB (fun (x : Nat) => Int.ofNat 0) 0 i e) (by intros; rfl)), (1, .le 1 1)]
    (V.need (83 ≤ 83 ∧ 83 ≤ x_3)
    (nN [(1, .pf (∀ (i e : Nat), i = 0 ∧ e < 83 → x.m.g e = x.m.g e) (by intros; rfl))]
    (V.need (preEnt (Cf.mk (Int.ofNat 1) (Int.ofNat 3) (Int.ofNat 1) (Int.ofNat 9) (Int.ofNat 8) (Int.ofNat 1) (Int.ofNat 1) (Int.ofNat 0) (Int.ofNat 1) 1 x_1.fst 0 x_1.snd.fst (fun (e : Nat) => 0) x_1.snd.snd (fun (i e : Nat) => cO (fun (x : Nat) => Int.ofNat 0) 0 i e) (fun (i e : Nat) => cA (fun (x : Nat) => Int.ofNat 0) 0 i e) (fun (i e : Nat) => cB (fun (x : Nat) => Int.ofNat 0) 0 i e) (fun (e : Nat) => uP (fun (x : Nat) => Int.ofNat 0) 0 e) (fun (e : Nat) => uL (fun (x : Nat) => Int.ofNat 0) 0 e) fun (e : Nat) => uD (fun (x : Nat) => Int.ofNat 0) 0 e) 83 x.m.g x_2.i)
    (V.br (decide (Int.ofNat 1 ≤ entN (Cf.mk (Int.ofNat 1) (Int.ofNat 3) (Int.ofNat 1) (Int.ofNat 9) (Int.ofNat 8) (Int.ofNat 1) (Int.ofNat 1) (Int.ofNat 0) (Int.ofNat 1) 1 x_1.fst 0 x_1.snd.fst (fun (e : Nat) => 0) x_1.snd.snd (fun (i e : Nat) => cO (fun (x : Nat) => Int.ofNat 0) 0 i e) (fun (i e : Nat) => cA (fun (x : Nat) => Int.ofNat 0) 0 i e) (fun (i e : Nat) => cB (fun (x : Nat) => Int.ofNat 0) 0 i e) (fun (e : Nat) => uP (fun (x : Nat) => Int.ofNat 0) 0 e) (fun (e : Nat) => uL (fun (x : Nat) => Int.ofNat 0) 0 e) fun (e : Nat) => uD (fun (x : Nat) => Int.ofNat 0) 0 e) x.m.g x_2.i ∧ entN (Cf.mk (Int.ofNat 1) (Int.ofNat 3) (Int.ofNat 1) (Int.ofNat 9) (Int.ofNat 8) (Int.ofNat 1) (Int.ofNat 1) (Int.ofNat 0) (Int.ofNat 1) 1 x_1.fst 0 x_1.snd.fst (fun (e : Nat) => 0) x_1.snd.snd (fun (i e : Nat) => cO (fun (x : Nat) => Int.ofNat 0) 0 i e) (fun (i e : Nat) => cA (fun (x : Nat) => Int.ofNat 0) 0 i e) (fun (i e : Nat) => cB (fun (x : Nat) => Int.ofNat 0) 0 i e) (fun (e : Nat) => uP (fun (x : Nat) => Int.ofNat 0) 0 e) (fun (e : Nat) => uL (fun (x : Nat) => Int.ofNat 0) 0 e) fun (e : Nat) => uD (fun (x : Nat) => Int.ofNat 0) 0 e) x.m.g x_2.i ≤ Int.ofNat 8))
    (V.need (∃ (x_4 : Nat), (entN (Cf.mk (Int.ofNat 1) (Int.ofNat 3) (Int.ofNat 1) (Int.ofNat 9) (Int.ofNat 8) (Int.ofNat 1) (Int.ofNat 1) (Int.ofNat 0) (Int.ofNat 1) 1 x_1.fst 0 x_1.snd.fst (fun (e : Nat) => 0) x_1.snd.snd (fun (i e : Nat) => cO (fun (x : Nat) => Int.ofNat 0) 0 i e) (fun (i e : Nat) => cA (fun (x : Nat) => Int.ofNat 0) 0 i e) (fun (i e : Nat) => cB (fun (x : Nat) => Int.ofNat 0) 0 i e) (fun (e : Nat) => uP (fun (x : Nat) => Int.ofNat 0) 0 e) (fun (e : Nat) => uL (fun (x : Nat) => Int.ofNat 0) 0 e) fun (e : Nat) => uD (fun (x : Nat) => Int.ofNat 0) 0 e) x.m.g x_2.i).toNat ≤ x_4)
    (V.any Nat (fun (cp : Nat) => (entN (Cf.mk (Int.ofNat 1) (Int.ofNat 3) (Int.ofNat 1) (Int.ofNat 9) (Int.ofNat 8) (Int.ofNat 1) (Int.ofNat 1) (Int.ofNat 0) (Int.ofNat 1) 1 x_1.fst 0 x_1.snd.fst (fun (e : Nat) => 0) x_1.snd.snd (fun (i e : Nat) => cO (fun (x : Nat) => Int.ofNat 0) 0 i e) (fun (i e : Nat) => cA (fun (x : Nat) => Int.ofNat 0) 0 i e) (fun (i e : Nat) => cB (fun (x : Nat) => Int.ofNat 0) 0 i e) (fun (e : Nat) => uP (fun (x : Nat) => Int.ofNat 0) 0 e) (fun (e : Nat) => uL (fun (x : Nat) => Int.ofNat 0) 0 e) fun (e : Nat) => uD (fun (x : Nat) => Int.ofNat 0) 0 e) x.m.g x_2.i).toNat ≤ cp) fun (x_4 : Nat) => V.need (I2 x_2.i (XF.mk (IntKind.i64.wrap ((↑(entN (Cf.mk (Int.ofNat 1) (Int.ofNat 3) (Int.ofNat 1) (Int.ofNat 9) (Int.ofNat 8) (Int.ofNat 1) (Int.ofNat 1) (Int.ofNat 0) (Int.ofNat 1) 1 x_1.fst 0 x_1.snd.fst (fun (e : Nat) => 0) x_1.snd.snd (fun (i e : Nat) => cO (fun (x : Nat) => Int.ofNat 0) 0 i e) (fun (i e : Nat) => cA (fun (x : Nat) => Int.ofNat 0) 0 i e) (fun (i e : Nat) => cB (fun (x : Nat) => Int.ofNat 0) 0 i e) (fun (e : Nat) => uP (fun (x : Nat) => Int.ofNat 0) 0 e) (fun (e : Nat) => uL (fun (x : Nat) => Int.ofNat 0) 0 e) fun (e : Nat) => uD (fun (x : Nat) => Int.ofNat 0) 0 e) x.m.g x_2.i).toNat : Int) - Int.ofNat 1)) x_2.n x_2.cp x_2.a x_2.w x_2.v x_2.q))
    (nN [qE (IntKind.i64.wrap ((↑(entN (Cf.mk (Int.ofNat 1) (Int.ofNat 3) (Int.ofNat 1) (Int.ofNat 9) (Int.ofNat 8) (Int.ofNat 1) (Int.ofNat 1) (Int.ofNat 0) (Int.ofNat 1) 1 x_1.fst 0 x_1.snd.fst (fun (e : Nat) => 0) x_1.snd.snd (fun (i e : Nat) => cO (fun (x : Nat) => Int.ofNat 0) 0 i e) (fun (i e : Nat) => cA (fun (x : Nat) => Int.ofNat 0) 0 i e) (fun (i e : Nat) => cB (fun (x : Nat) => Int.ofNat 0) 0 i e) (fun (e : Nat) => uP (fun (x : Nat) => Int.ofNat 0) 0 e) (fun (e : Nat) => uL (fun (x : Nat) => Int.ofNat 0) 0 e) fun (e : Nat) => uD (fun (x : Nat) => Int.ofNat 0) 0 e) x.m.g x_2.i).toNat : Int) - Int.ofNat 1)), qE x_2.n, qE x_2.cp, qE x_2.w, qE x_2.v, qE x_2.q, qE x_2.cp, qL x_2.n, qF x_2.n x_2.a]
    (V.any XF (I2 x_2.i) fun (x_5 : XF) => V.br (decide (x_5.i ≥ Int.ofNat 0))
    (V.br (decide (x_5.w < Int.ofNat 0))
    (nN [(14, .lt2 0 1 0 1)]
    (V.need (Int.ofNat 0 ≤ x_5.i ∧ x_5.i < (↑(entN (Cf.mk (Int.ofNat 1) (Int.ofNat 3) (Int.ofNat 1) (Int.ofNat 9) (Int.ofNat 8) (Int.ofNat 1) (Int.ofNat 1) (Int.ofNat 0) (Int.ofNat 1) 1 x_1.fst 0 x_1.snd.fst (fun (e : Nat) => 0) x_1.snd.snd (fun (i e : Nat) => cO (fun (x : Nat) => Int.ofNat 0) 0 i e) (fun (i e : Nat) => cA (fun (x : Nat) => Int.ofNat 0) 0 i e) (fun (i e : Nat) => cB (fun (x : Nat) => Int.ofNat 0) 0 i e) (fun (e : Nat) => uP (fun (x : Nat) => Int.ofNat 0) 0 e) (fun (e : Nat) => uL (fun (x : Nat) => Int.ofNat 0) 0 e) fun (e : Nat) => uD (fun (x : Nat) => Int.ofNat 0) 0 e) x.m.g x_2.i).toNat : Int))
    (V.need (0 < 1 ∧ 0 + x_5.i.toNat < (entN (Cf.mk (Int.ofNat 1) (Int.ofNat 3) (Int.ofNat 1) (Int.ofNat 9) (Int.ofNat 8) (Int.ofNat 1) (Int.ofNat 1) (Int.ofNat 0) (Int.ofNat 1) 1 x_1.fst 0 x_1.snd.fst (fun (e : Nat) => 0) x_1.snd.snd (fun (i e : Nat) => cO (fun (x : Nat) => Int.ofNat 0) 0 i e) (fun (i e : Nat) => cA (fun (x : Nat) => Int.ofNat 0) 0 i e) (fun (i e : Nat) => cB (fun (x : Nat) => Int.ofNat 0) 0 i e) (fun (e : Nat) => uP (fun (x : Nat) => Int.ofNat 0) 0 e) (fun (e : Nat) => uL (fun (x : Nat) => Int.ofNat 0) 0 e) fun (e : Nat) => uD (fun (x : Nat) => Int.ofNat 0) 0 e) x.m.g x_2.i).toNat)
    (V.need (0 < 1 ∧ 0 + x_5.i.toNat < (entN (Cf.mk (Int.ofNat 1) (Int.ofNat 3) (Int.ofNat 1) (Int.ofNat 9) (Int.ofNat 8) (Int.ofNat 1) (Int.ofNat 1) (Int.ofNat 0) (Int.ofNat 1) 1 x_1.fst 0 x_1.snd.fst (fun (e : Nat) => 0) x_1.snd.snd (fun (i e : Nat) => cO (fun (x : Nat) => Int.ofNat 0) 0 i e) (fun (i e : Nat) => cA (fun (x : Nat) => Int.ofNat 0) 0 i e) (fun (i e : Nat) => cB (fun (x : Nat) => Int.ofNat 0) 0 i e) (fun (e : Nat) => uP (fun (x : Nat) => Int.ofNat 0) 0 e) (fun (e : Nat) => uL (fun (x : Nat) => Int.ofNat 0) 0 e) fun (e : Nat) => uD (fun (x : Nat) => Int.ofNat 0) 0 e) x.m.g x_2.i).toNat)
    (nN [(1, .eqI 1 1), (1, .eqI 3 3), (1, .eqI 1 1), (1, .eqI 9 9), (1, .eqI 8 8), (2, .eqI 1 1), (1, .eqI 0 0), (1, .eqI 1 1), (1, .eq 1 1), qE x_1.fst, (1, .eq 0 0), qE x_1.snd.fst, qE (entE (Cf.mk (Int.ofNat 1) (Int.ofNat 3) (Int.ofNat 1) (Int.ofNat 9) (Int.ofNat 8) (Int.ofNat 1) (Int.ofNat 1) (Int.ofNat 0) (Int.ofNat 1) 1 x_1.fst 0 x_1.snd.fst (fun (e : Nat) => 0) x_1.snd.snd (fun (i e : Nat) => cO (fun (x : Nat) => Int.ofNat 0) 0 i e) (fun (i e : Nat) => cA (fun (x : Nat) => Int.ofNat 0) 0 i e) (fun (i e : Nat) => cB (fun (x : Nat) => Int.ofNat 0) 0 i e) (fun (e : Nat) => uP (fun (x : Nat) => Int.ofNat 0) 0 e) (fun (e : Nat) => uL (fun (x : Nat) => Int.ofNat 0) 0 e) fun (e : Nat) => uD (fun (x : Nat) => Int.ofNat 0) 0 e) x.m.g x_2.i (0 + x_5.i.toNat)), (1, .eqI 0 0), (1, .le 1 1), (1, .pf (∀ (i : Nat), i < 1 → 1 ≤ 1) (by intros; exact Nat.le_refl _)), (1, .pf (∀ (i e : Nat), i < 1 ∧ e < 1 → e = e) (by intros; rfl)), (1, .pf (∀ (i e : Nat), i < 1 ∧ e < 1 → 0 = 0) (by intros; rfl)), (1, .pf (∀ (i e : Nat), i < 1 ∧ e < 1 → x_1.snd.snd e = x_1.snd.snd e) (by intros; rfl)), (1, .le 1 1), (1, .pf (∀ (i : Nat), i < 1 → 0 ≤ 0) (by intros; exact Nat.le_refl _)), (1, .pf (∀ (i e : Nat), i < 1 ∧ e < 0 → uP (fun (x : Nat) => Int.ofNat 0) 0 e = uP (fun (x : Nat) => Int.ofNat 0) 0 e) (by intros; rfl)), (1, .pf (∀ (i e : Nat), i < 1 ∧ e < 0 → uL (fun (x : Nat) => Int.ofNat 0) 0 e = uL (fun (x : Nat) => Int.ofNat 0) 0 e) (by intros; rfl)), (1, .pf (∀ (i e : Nat), i < 1 ∧ e < 0 → uD (fun (x : Nat) => Int.ofNat 0) 0 e = uD (fun (x : Nat) => Int.ofNat 0) 0 e) (by intros; rfl))]
    (V.need (∀ (i : Nat), i < 1 → 0 ≤ gd 1 (fun (x : Nat) => 0) i ∧ 0 ≤ gd 1 x_1.snd.snd i)
    (nN [(1, .pf (∀ (i e : Nat), i < 1 ∧ e < 0 → cO (fun (x : Nat) => Int.ofNat 0) 0 i e = cO (fun (x : Nat) => Int.ofNat 0) 0 i e) (by intros; rfl)), (1, .pf (∀ (i e : Nat), i < 1 ∧ e < 0 → cA (fun (x : Nat) => Int.ofNat 0) 0 i e = cA (fun (x : Nat) => Int.ofNat 0) 0 i e) (by intros; rfl)), (1, .pf (∀ (i e : Nat), i < 1 ∧ e < 0 → cB (fun (x : Nat) => Int.ofNat 0) 0 i e = cB (fun (x : Nat) => Int.ofNat 0) 0 i e) (by intros; rfl))]
    (V.need (preTk (Cf.mk (Int.ofNat 1) (Int.ofNat 3) (Int.ofNat 1) (Int.ofNat 9) (Int.ofNat 8) (Int.ofNat 1) (Int.ofNat 1) (Int.ofNat 0) (Int.ofNat 1) 1 x_1.fst 0 x_1.snd.fst (fun (e : Nat) => 0) x_1.snd.snd (fun (i e : Nat) => cO (fun (x : Nat) => Int.ofNat 0) 0 i e) (fun (i e : Nat) => cA (fun (x : Nat) => Int.ofNat 0) 0 i e) (fun (i e : Nat) => cB (fun (x : Nat) => Int.ofNat 0) 0 i e) (fun (e : Nat) => uP (fun (x : Nat) => Int.ofNat 0) 0 e) (fun (e : Nat) => uL (fun (x : Nat) => Int.ofNat 0) 0 e) fun (e : Nat) => uD (fun (x : Nat) => Int.ofNat 0) 0 e) (entE (Cf.mk (Int.ofNat 1) (Int.ofNat 3) (Int.ofNat 1) (Int.ofNat 9) (Int.ofNat 8) (Int.ofNat 1) (Int.ofNat 1) (Int.ofNat 0) (Int.ofNat 1) 1 x_1.fst 0 x_1.snd.fst (fun (e : Nat) => 0) x_1.snd.snd (fun (i e : Nat) => cO (fun (x : Nat) => Int.ofNat 0) 0 i e) (fun (i e : Nat) => cA (fun (x : Nat) => Int.ofNat 0) 0 i e) (fun (i e : Nat) => cB (fun (x : Nat) => Int.ofNat 0) 0 i e) (fun (e : Nat) => uP (fun (x : Nat) => Int.ofNat 0) 0 e) (fun (e : Nat) => uL (fun (x : Nat) => Int.ofNat 0) 0 e) fun (e : Nat) => uD (fun (x : Nat) => Int.ofNat 0) 0 e) x.m.g x_2.i (0 + x_5.i.toNat)) (Int.ofNat 0))
    (nN [qX (lT (Cf.mk (Int.ofNat 1) (Int.ofNat 3) (Int.ofNat 1) (Int.ofNat 9) (Int.ofNat 8) (Int.ofNat 1) (Int.ofNat 1) (Int.ofNat 0) (Int.ofNat 1) 1 x_1.fst 0 x_1.snd.fst (fun (e : Nat) => 0) x_1.snd.snd (fun (i e : Nat) => cO (fun (x : Nat) => Int.ofNat 0) 0 i e) (fun (i e : Nat) => cA (fun (x : Nat) => Int.ofNat 0) 0 i e) (fun (i e : Nat) => cB (fun (x : Nat) => Int.ofNat 0) 0 i e) (fun (e : Nat) => uP (fun (x : Nat) => Int.ofNat 0) 0 e) (fun (e : Nat) => uL (fun (x : Nat) => Int.ofNat 0) 0 e) fun (e : Nat) => uD (fun (x : Nat) => Int.ofNat 0) 0 e) + entE (Cf.mk (Int.ofNat 1) (Int.ofNat 3) (Int.ofNat 1) (Int.ofNat 9) (Int.ofNat 8) (Int.ofNat 1) (Int.ofNat 1) (Int.ofNat 0) (Int.ofNat 1) 1 x_1.fst 0 x_1.snd.fst (fun (e : Nat) => 0) x_1.snd.snd (fun (i e : Nat) => cO (fun (x : Nat) => Int.ofNat 0) 0 i e) (fun (i e : Nat) => cA (fun (x : Nat) => Int.ofNat 0) 0 i e) (fun (i e : Nat) => cB (fun (x : Nat) => Int.ofNat 0) 0 i e) (fun (e : Nat) => uP (fun (x : Nat) => Int.ofNat 0) 0 e) (fun (e : Nat) => uL (fun (x : Nat) => Int.ofNat 0) 0 e) fun (e : Nat) => uD (fun (x : Nat) => Int.ofNat 0) 0 e) x.m.g x_2.i (0 + x_5.i.toNat) * Int.ofNat 5 + Int.ofNat 0)]
    (V.any Int (fun (r : Int) => r = lT (Cf.mk (Int.ofNat 1) (Int.ofNat 3) (Int.ofNat 1) (Int.ofNat 9) (Int.ofNat 8) (Int.ofNat 1) (Int.ofNat 1) (Int.ofNat 0) (Int.ofNat 1) 1 x_1.fst 0 x_1.snd.fst (fun (e : Nat) => 0) x_1.snd.snd (fun (i e : Nat) => cO (fun (x : Nat) => Int.ofNat 0) 0 i e) (fun (i e : Nat) => cA (fun (x : Nat) => Int.ofNat 0) 0 i e) (fun (i e : Nat) => cB (fun (x : Nat) => Int.ofNat 0) 0 i e) (fun (e : Nat) => uP (fun (x : Nat) => Int.ofNat 0) 0 e) (fun (e : Nat) => uL (fun (x : Nat) => Int.ofNat 0) 0 e) fun (e : Nat) => uD (fun (x : Nat) => Int.ofNat 0) 0 e) + entE (Cf.mk (Int.ofNat 1) (Int.ofNat 3) (Int.ofNat 1) (Int.ofNat 9) (Int.ofNat 8) (Int.ofNat 1) (Int.ofNat 1) (Int.ofNat 0) (Int.ofNat 1) 1 x_1.fst 0 x_1.snd.fst (fun (e : Nat) => 0) x_1.snd.snd (fun (i e : Nat) => cO (fun (x : Nat) => Int.ofNat 0) 0 i e) (fun (i e : Nat) => cA (fun (x : Nat) => Int.ofNat 0) 0 i e) (fun (i e : Nat) => cB (fun (x : Nat) => Int.ofNat 0) 0 i e) (fun (e : Nat) => uP (fun (x : Nat) => Int.ofNat 0) 0 e) (fun (e : Nat) => uL (fun (x : Nat) => Int.ofNat 0) 0 e) fun (e : Nat) => uD (fun (x : Nat) => Int.ofNat 0) 0 e) x.m.g x_2.i (0 + x_5.i.toNat) * Int.ofNat 5 + Int.ofNat 0) fun (x_6 : Int) => nN [qE x_6, (1, .le 1 1), (1, .pf (∀ (i : Nat), i < 1 → 1 ≤ 1) (by intros; exact Nat.le_refl _)), qE x.m.ct, (1, .le 1 1), (1, .pf (∀ (i : Nat), i < 1 → 83 ≤ 83) (by intros; exact Nat.le_refl _)), (1, .pf (∀ (i e : Nat), i < 1 ∧ e < 83 → x.m.g e = x.m.g e) (by intros; rfl)), qX (x.m.val 83 x_6)]
    (V.any Int (fun (v : Int) => v = x.m.val 83 x_6) fun (x_7 : Int) => V.br (x_7 == Int.ofNat 1)
    (V.need (Int.ofNat 0 ≤ x_5.i ∧ x_5.i < (↑(entN (Cf.mk (Int.ofNat 1) (Int.ofNat 3) (Int.ofNat 1) (Int.ofNat 9) (Int.ofNat 8) (Int.ofNat 1) (Int.ofNat 1) (Int.ofNat 0) (Int.ofNat 1) 1 x_1.fst 0 x_1.snd.fst (fun (e : Nat) => 0) x_1.snd.snd (fun (i e : Nat) => cO (fun (x : Nat) => Int.ofNat 0) 0 i e) (fun (i e : Nat) => cA (fun (x : Nat) => Int.ofNat 0) 0 i e) (fun (i e : Nat) => cB (fun (x : Nat) => Int.ofNat 0) 0 i e) (fun (e : Nat) => uP (fun (x : Nat) => Int.ofNat 0) 0 e) (fun (e : Nat) => uL (fun (x : Nat) => Int.ofNat 0) 0 e) fun (e : Nat) => uD (fun (x : Nat) => Int.ofNat 0) 0 e) x.m.g x_2.i).toNat : Int))
    (V.need (0 < 1 ∧ 0 + x_5.i.toNat < (entN (Cf.mk (Int.ofNat 1) (Int.ofNat 3) (Int.ofNat 1) (Int.ofNat 9) (Int.ofNat 8) (Int.ofNat 1) (Int.ofNat 1) (Int.ofNat 0) (Int.ofNat 1) 1 x_1.fst 0 x_1.snd.fst (fun (e : Nat) => 0) x_1.snd.snd (fun (i e : Nat) => cO (fun (x : Nat) => Int.ofNat 0) 0 i e) (fun (i e : Nat) => cA (fun (x : Nat) => Int.ofNat 0) 0 i e) (fun (i e : Nat) => cB (fun (x : Nat) => Int.ofNat 0) 0 i e) (fun (e : Nat) => uP (fun (x : Nat) => Int.ofNat 0) 0 e) (fun (e : Nat) => uL (fun (x : Nat) => Int.ofNat 0) 0 e) fun (e : Nat) => uD (fun (x : Nat) => Int.ofNat 0) 0 e) x.m.g x_2.i).toNat)
    (V.need (0 < 1 ∧ 0 + x_5.i.toNat < (entN (Cf.mk (Int.ofNat 1) (Int.ofNat 3) (Int.ofNat 1) (Int.ofNat 9) (Int.ofNat 8) (Int.ofNat 1) (Int.ofNat 1) (Int.ofNat 0) (Int.ofNat 1) 1 x_1.fst 0 x_1.snd.fst (fun (e : Nat) => 0) x_1.snd.snd (fun (i e : Nat) => cO (fun (x : Nat) => Int.ofNat 0) 0 i e) (fun (i e : Nat) => cA (fun (x : Nat) => Int.ofNat 0) 0 i e) (fun (i e : Nat) => cB (fun (x : Nat) => Int.ofNat 0) 0 i e) (fun (e : Nat) => uP (fun (x : Nat) => Int.ofNat 0) 0 e) (fun (e : Nat) => uL (fun (x : Nat) => Int.ofNat 0) 0 e) fun (e : Nat) => uD (fun (x : Nat) => Int.ofNat 0) 0 e) x.m.g x_2.i).toNat)
    (V.need (I2 x_2.i (XF.mk (IntKind.i64.wrap (x_5.i - Int.ofNat 1)) x_5.n x_5.cp x_5.a (entE (Cf.mk (Int.ofNat 1) (Int.ofNat 3) (Int.ofNat 1) (Int.ofNat 9) (Int.ofNat 8) (Int.ofNat 1) (Int.ofNat 1) (Int.ofNat 0) (Int.ofNat 1) 1 x_1.fst 0 x_1.snd.fst (fun (e : Nat) => 0) x_1.snd.snd (fun (i e : Nat) => cO (fun (x : Nat) => Int.ofNat 0) 0 i e) (fun (i e : Nat) => cA (fun (x : Nat) => Int.ofNat 0) 0 i e) (fun (i e : Nat) => cB (fun (x : Nat) => Int.ofNat 0) 0 i e) (fun (e : Nat) => uP (fun (x : Nat) => Int.ofNat 0) 0 e) (fun (e : Nat) => uL (fun (x : Nat) => Int.ofNat 0) 0 e) fun (e : Nat) => uD (fun (x : Nat) => Int.ofNat 0) 0 e) x.m.g x_2.i (0 + x_5.i.toNat)) x_2.i x_5.i))
    (V.need ((IntKind.i64.wrap (x_5.i - Int.ofNat 1) + Int.ofNat 1).toNat < (x_5.i + Int.ofNat 1).toNat)
    (nN [qE (IntKind.i64.wrap (x_5.i - Int.ofNat 1)), qE x_5.n, qE x_5.cp, qE (entE (Cf.mk (Int.ofNat 1) (Int.ofNat 3) (Int.ofNat 1) (Int.ofNat 9) (Int.ofNat 8) (Int.ofNat 1) (Int.ofNat 1) (Int.ofNat 0) (Int.ofNat 1) 1 x_1.fst 0 x_1.snd.fst (fun (e : Nat) => 0) x_1.snd.snd (fun (i e : Nat) => cO (fun (x : Nat) => Int.ofNat 0) 0 i e) (fun (i e : Nat) => cA (fun (x : Nat) => Int.ofNat 0) 0 i e) (fun (i e : Nat) => cB (fun (x : Nat) => Int.ofNat 0) 0 i e) (fun (e : Nat) => uP (fun (x : Nat) => Int.ofNat 0) 0 e) (fun (e : Nat) => uL (fun (x : Nat) => Int.ofNat 0) 0 e) fun (e : Nat) => uD (fun (x : Nat) => Int.ofNat 0) 0 e) x.m.g x_2.i (0 + x_5.i.toNat)), qE x_2.i, qE x_5.i, qE x_5.cp, qL x_5.n, qF x_5.n x_5.a] V.ok))))))
    (V.need (Int.ofNat 0 ≤ x_5.i ∧ x_5.i < (↑(entN (Cf.mk (Int.ofNat 1) (Int.ofNat 3) (Int.ofNat 1) (Int.ofNat 9) (Int.ofNat 8) (Int.ofNat 1) (Int.ofNat 1) (Int.ofNat 0) (Int.ofNat 1) 1 x_1.fst 0 x_1.snd.fst (fun (e : Nat) => 0) x_1.snd.snd (fun (i e : Nat) => cO (fun (x : Nat) => Int.ofNat 0) 0 i e) (fun (i e : Nat) => cA (fun (x : Nat) => Int.ofNat 0) 0 i e) (fun (i e : Nat) => cB (fun (x : Nat) => Int.ofNat 0) 0 i e) (fun (e : Nat) => uP (fun (x : Nat) => Int.ofNat 0) 0 e) (fun (e : Nat) => uL (fun (x : Nat) => Int.ofNat 0) 0 e) fun (e : Nat) => uD (fun (x : Nat) => Int.ofNat 0) 0 e) x.m.g x_2.i).toNat : Int))
    (V.need (0 < 1 ∧ 0 + x_5.i.toNat < (entN (Cf.mk (Int.ofNat 1) (Int.ofNat 3) (Int.ofNat 1) (Int.ofNat 9) (Int.ofNat 8) (Int.ofNat 1) (Int.ofNat 1) (Int.ofNat 0) (Int.ofNat 1) 1 x_1.fst 0 x_1.snd.fst (fun (e : Nat) => 0) x_1.snd.snd (fun (i e : Nat) => cO (fun (x : Nat) => Int.ofNat 0) 0 i e) (fun (i e : Nat) => cA (fun (x : Nat) => Int.ofNat 0) 0 i e) (fun (i e : Nat) => cB (fun (x : Nat) => Int.ofNat 0) 0 i e) (fun (e : Nat) => uP (fun (x : Nat) => Int.ofNat 0) 0 e) (fun (e : Nat) => uL (fun (x : Nat) => Int.ofNat 0) 0 e) fun (e : Nat) => uD (fun (x : Nat) => Int.ofNat 0) 0 e) x.m.g x_2.i).toNat)
    (V.need (0 < 1 ∧ 0 + x_5.i.toNat < (entN (Cf.mk (Int.ofNat 1) (Int.ofNat 3) (Int.ofNat 1) (Int.ofNat 9) (Int.ofNat 8) (Int.ofNat 1) (Int.ofNat 1) (Int.ofNat 0) (Int.ofNat 1) 1 x_1.fst 0 x_1.snd.fst (fun (e : Nat) => 0) x_1.snd.snd (fun (i e : Nat) => cO (fun (x : Nat) => Int.ofNat 0) 0 i e) (fun (i e : Nat) => cA (fun (x : Nat) => Int.ofNat 0) 0 i e) (fun (i e : Nat) => cB (fun (x : Nat) => Int.ofNat 0) 0 i e) (fun (e : Nat) => uP (fun (x : Nat) => Int.ofNat 0) 0 e) (fun (e : Nat) => uL (fun (x : Nat) => Int.ofNat 0) 0 e) fun (e : Nat) => uD (fun (x : Nat) => Int.ofNat 0) 0 e) x.m.g x_2.i).toNat)
    (nN [(1, .lt 0 1)]
    (V.need (x_5.n ≤ x_5.n ∧ x_5.cp = x_5.cp)
    (V.need (x_5.n + 1 ≤ 9223372036854775807 ∧ (x_5.n + 1) * 8 ≤ 140737488355328)
    (V.any Nat (fun (x : Nat) => x_5.n + 1 ≤ x) fun (x_8 : Nat) => V.need (I2 x_2.i (XF.mk (IntKind.i64.wrap (x_5.i - Int.ofNat 1)) (x_5.n + 1) x_8 (fun (e : Nat) => if 0 = 0 ∧ e = x_5.n then entE (Cf.mk (Int.ofNat 1) (Int.ofNat 3) (Int.ofNat 1) (Int.ofNat 9) (Int.ofNat 8) (Int.ofNat 1) (Int.ofNat 1) (Int.ofNat 0) (Int.ofNat 1) 1 x_1.fst 0 x_1.snd.fst (fun (e : Nat) => 0) x_1.snd.snd (fun (i e : Nat) => cO (fun (x : Nat) => Int.ofNat 0) 0 i e) (fun (i e : Nat) => cA (fun (x : Nat) => Int.ofNat 0) 0 i e) (fun (i e : Nat) => cB (fun (x : Nat) => Int.ofNat 0) 0 i e) (fun (e : Nat) => uP (fun (x : Nat) => Int.ofNat 0) 0 e) (fun (e : Nat) => uL (fun (x : Nat) => Int.ofNat 0) 0 e) fun (e : Nat) => uD (fun (x : Nat) => Int.ofNat 0) 0 e) x.m.g x_2.i (0 + x_5.i.toNat) else x_5.a e) x_5.w x_5.v x_5.q))
    (V.need ((IntKind.i64.wrap (x_5.i - Int.ofNat 1) + Int.ofNat 1).toNat < (x_5.i + Int.ofNat 1).toNat)
    (nN [qE (IntKind.i64.wrap (x_5.i - Int.ofNat 1)), qE (x_5.n + 1), qE x_8, qE x_5.w, qE x_5.v, qE x_5.q, qE x_8]
    (V.need (x_5.n + 1 ≤ x_5.n + 1)
    (V.need (∀ (e : Nat), e < x_5.n + 1 → (if 0 = 0 ∧ e = x_5.n then entE (Cf.mk (Int.ofNat 1) (Int.ofNat 3) (Int.ofNat 1) (Int.ofNat 9) (Int.ofNat 8) (Int.ofNat 1) (Int.ofNat 1) (Int.ofNat 0) (Int.ofNat 1) 1 x_1.fst 0 x_1.snd.fst (fun (e : Nat) => 0) x_1.snd.snd (fun (i e : Nat) => cO (fun (x : Nat) => Int.ofNat 0) 0 i e) (fun (i e : Nat) => cA (fun (x : Nat) => Int.ofNat 0) 0 i e) (fun (i e : Nat) => cB (fun (x : Nat) => Int.ofNat 0) 0 i e) (fun (e : Nat) => uP (fun (x : Nat) => Int.ofNat 0) 0 e) (fun (e : Nat) => uL (fun (x : Nat) => Int.ofNat 0) 0 e) fun (e : Nat) => uD (fun (x : Nat) => Int.ofNat 0) 0 e) x.m.g x_2.i (0 + x_5.i.toNat) else x_5.a e) = if 0 = 0 ∧ e = x_5.n then entE (Cf.mk (Int.ofNat 1) (Int.ofNat 3) (Int.ofNat 1) (Int.ofNat 9) (Int.ofNat 8) (Int.ofNat 1) (Int.ofNat 1) (Int.ofNat 0) (Int.ofNat 1) 1 x_1.fst 0 x_1.snd.fst (fun (e : Nat) => 0) x_1.snd.snd (fun (i e : Nat) => cO (fun (x : Nat) => Int.ofNat 0) 0 i e) (fun (i e : Nat) => cA (fun (x : Nat) => Int.ofNat 0) 0 i e) (fun (i e : Nat) => cB (fun (x : Nat) => Int.ofNat 0) 0 i e) (fun (e : Nat) => uP (fun (x : Nat) => Int.ofNat 0) 0 e) (fun (e : Nat) => uL (fun (x : Nat) => Int.ofNat 0) 0 e) fun (e : Nat) => uD (fun (x : Nat) => Int.ofNat 0) 0 e) x.m.g x_2.i (0 + x_5.i.toNat) else x_5.a e) V.ok))))))))))))))))))))))
    (V.need (I1 (XF.mk (IntKind.i64.wrap (x_2.i - Int.ofNat 1)) x_5.n x_5.cp x_5.a x_5.w x_5.v x_5.q))
    (V.need ((IntKind.i64.wrap (x_2.i - Int.ofNat 1) + Int.ofNat 1).toNat < (x_2.i + Int.ofNat 1).toNat)
    (nN [qE (IntKind.i64.wrap (x_2.i - Int.ofNat 1)), qE x_5.n, qE x_5.cp, qE x_5.w, qE x_5.v, qE x_5.q, qE x_5.cp, qL x_5.n, qF x_5.n x_5.a] V.ok))))
    (V.need (I1 (XF.mk (IntKind.i64.wrap (x_2.i - Int.ofNat 1)) x_5.n x_5.cp x_5.a x_5.w x_5.v x_5.q))
    (V.need ((IntKind.i64.wrap (x_2.i - Int.ofNat 1) + Int.ofNat 1).toNat < (x_2.i + Int.ofNat 1).toNat)
    (nN [qE (IntKind.i64.wrap (x_2.i - Int.ofNat 1)), qE x_5.n, qE x_5.cp, qE x_5.w, qE x_5.v, qE x_5.q, qE x_5.cp, qL x_5.n, qF x_5.n x_5.a] V.ok)))))))
    (V.need (I2 x_2.i (XF.mk (Int.negSucc 0) x_2.n x_2.cp x_2.a x_2.w x_2.v x_2.q))
    (nN [qE (Int.negSucc 0), qE x_2.n, qE x_2.cp, qE x_2.w, qE x_2.v, qE x_2.q, qE x_2.cp, qL x_2.n, qF x_2.n x_2.a]
    (V.any XF (I2 x_2.i) fun (x : XF) => V.br (decide (x.i ≥ Int.ofNat 0))
    (V.br (decide (x.w < Int.ofNat 0))
    (nN [(14, .lt2 0 1 0 1)]
    (V.bad 104))
    (V.need (I1 (XF.mk (IntKind.i64.wrap (x_2.i - Int.ofNat 1)) x.n x.cp x.a x.w x.v x.q))
    (V.need ((IntKind.i64.wrap (x_2.i - Int.ofNat 1) + Int.ofNat 1).toNat < (x_2.i + Int.ofNat 1).toNat)
    (nN [qE (IntKind.i64.wrap (x_2.i - Int.ofNat 1)), qE x.n, qE x.cp, qE x.w, qE x.v, qE x.q, qE x.cp, qL x.n, qF x.n x.a] V.ok))))
    (V.need (I1 (XF.mk (IntKind.i64.wrap (x_2.i - Int.ofNat 1)) x.n x.cp x.a x.w x.v x.q))
    (V.need ((IntKind.i64.wrap (x_2.i - Int.ofNat 1) + Int.ofNat 1).toNat < (x_2.i + Int.ofNat 1).toNat)
    (nN [qE (IntKind.i64.wrap (x_2.i - Int.ofNat 1)), qE x.n, qE x.cp, qE x.w, qE x.v, qE x.q, qE x.cp, qL x.n, qF x.n x.a] V.ok)))))))))))))))
    (V.need (Int.ofNat 600 = (↑600 : Int))
    (nN [(1, .eqI 1 1), (1, .eqI 3 3), (1, .eqI 1 1), (1, .eqI 9 9), (1, .eqI 8 8), (1, .eqI 1 1), (1, .eqI 5 5), (1, .eqI 6 6), (1, .eqI 7 7), (1, .eqI 8 8), (1, .eqI 38 38), (1, .eq 9 9), qE x.rc, (2, .eq 0 0), qE x.m.lk, qE x.m.lc, qE x.m.lo, qE x.m.ln, qE x.m.ct, (1, .eq 83 83), (1, .le 83 83), qF 83 x.m.g, (1, .eqI 0 0), (1, .eq 0 0), (1, .le 0 0), qF 0 (fun (e : Nat) => Int.ofNat 0), qF 0 (fun (e : Nat) => Int.ofNat 0), qF 0 (fun (e : Nat) => Int.ofNat 0), qF 0 (fun (e : Nat) => Int.ofNat 0), qF 0 (fun (e : Nat) => Int.ofNat 0), (2, .eqI 0 0), qE x.rc, (1, .le 9 9), qF 9 (fun (e : Nat) => false)]
    (V.need (preTa (Ly.mk (Int.ofNat 1) (Int.ofNat 3) (Int.ofNat 1) (Int.ofNat 9) (Int.ofNat 8) (Int.ofNat 1) (Int.ofNat 5) (Int.ofNat 6) (Int.ofNat 7) (Int.ofNat 8) (Int.ofNat 38)) 83 (Int.ofNat 0) 9 600 x.m (El.mk 0 (Evs.mk (fun (i : Nat) => Int.ofNat 0) (fun (i : Nat) => Int.ofNat 0) (fun (i : Nat) => Int.ofNat 0) (fun (i : Nat) => Int.ofNat 0) fun (i : Nat) => Int.ofNat 0)) 0 fun (e : Nat) => false)
    (V.need (∃ (x_3 : Rt × Nat), φTa (Ly.mk (Int.ofNat 1) (Int.ofNat 3) (Int.ofNat 1) (Int.ofNat 9) (Int.ofNat 8) (Int.ofNat 1) (Int.ofNat 5) (Int.ofNat 6) (Int.ofNat 7) (Int.ofNat 8) (Int.ofNat 38)) 83 (Int.ofNat 0) 9 600 x.m (El.mk 0 (Evs.mk (fun (i : Nat) => Int.ofNat 0) (fun (i : Nat) => Int.ofNat 0) (fun (i : Nat) => Int.ofNat 0) (fun (i : Nat) => Int.ofNat 0) fun (i : Nat) => Int.ofNat 0)) (fun (e : Nat) => false) x_3)
    (V.any (Rt × Nat) (φTa (Ly.mk (Int.ofNat 1) (Int.ofNat 3) (Int.ofNat 1) (Int.ofNat 9) (Int.ofNat 8) (Int.ofNat 1) (Int.ofNat 5) (Int.ofNat 6) (Int.ofNat 7) (Int.ofNat 8) (Int.ofNat 38)) 83 (Int.ofNat 0) 9 600 x.m (El.mk 0 (Evs.mk (fun (i : Nat) => Int.ofNat 0) (fun (i : Nat) => Int.ofNat 0) (fun (i : Nat) => Int.ofNat 0) (fun (i : Nat) => Int.ofNat 0) fun (i : Nat) => Int.ofNat 0)) fun (e : Nat) => false) fun (x : Rt × Nat) => V.br (decide ((↑x.fst.r.l.n : Int) < (↑x_2.n : Int)))
    (V.bad 420)
    (V.need (I3 0)
    (V.need (Int.ofNat 0 = (↑0 : Int))
    (V.any Nat I3 fun (x_3 : Nat) => V.br (decide ((↑x_3 : Int) < (↑x_2.n : Int)))
    (nN [(3, .lt2 0 1 0 1)]
    (V.need (Int.ofNat 0 ≤ (↑x_3 : Int) ∧ (↑x_3 : Int) < (↑x.fst.r.l.n : Int))
    (V.need (0 < 1 ∧ 0 + (↑x_3 : Int).toNat < x.fst.r.l.n)
    (V.need (0 < 1 ∧ 0 + (↑x_3 : Int).toNat < x.fst.r.l.n)
    (V.need (0 < 1 ∧ 0 + (↑x_3 : Int).toNat < x.fst.r.l.n)
    (V.need (0 < 1 ∧ 0 + (↑x_3 : Int).toNat < x.fst.r.l.n)
    (V.need (0 < 1 ∧ 0 + (↑x_3 : Int).toNat < x.fst.r.l.n)
    (V.need (0 < 1 ∧ 0 + (↑x_3 : Int).toNat < x.fst.r.l.n)
    (V.need (Int.ofNat 0 ≤ (↑x_3 : Int) ∧ (↑x_3 : Int) < (↑x_2.n : Int))
    (V.need (0 < 1 ∧ 0 + (↑x_3 : Int).toNat < x_2.n)
    (V.need (0 < 1 ∧ 0 + (↑x_3 : Int).toNat < x_2.n)
    (V.br (!(x.fst.r.l.v.k (0 + (↑x_3 : Int).toNat) == Int.ofNat 15 && (x.fst.r.l.v.w (0 + (↑x_3 : Int).toNat) == Int.ofNat 0 && (x.fst.r.l.v.t (0 + (↑x_3 : Int).toNat) == x_2.a (0 + (↑x_3 : Int).toNat) && (x.fst.r.l.v.o (0 + (↑x_3 : Int).toNat) == Int.ofNat 0 && (x.fst.r.l.v.l (0 + (↑x_3 : Int).toNat) == Int.ofNat 0 && true))))))
    (V.bad 420)
    (V.need (I3 (IntKind.i64.wrap ((↑x_3 : Int) + Int.ofNat 1)).toNat)
    (V.need (x_2.n - (IntKind.i64.wrap ((↑x_3 : Int) + Int.ofNat 1)).toNat < x_2.n - x_3)
    (V.need (IntKind.i64.wrap ((↑x_3 : Int) + Int.ofNat 1) = (↑(IntKind.i64.wrap ((↑x_3 : Int) + Int.ofNat 1)).toNat : Int)) V.ok)))))))))))))))
    (V.br (decide (x_2.w < Int.ofNat 0))
    (V.br (x.fst.r.c == Int.ofNat 2)
    (V.need (((↑x.fst.r.l.n : Int) == (↑x_2.n : Int)) = true) V.ok)
    (V.bad 420))
    (nN [(17, .lt2 0 1 0 1), (2, .eq 83 83), (1, .le 1 1), (1, .pf (∀ (i : Nat), i < 1 → 83 ≤ 83) (by intros; exact Nat.le_refl _)), (1, .pf (∀ (i e : Nat), i < 1 ∧ e < 83 → x.fst.r.m.g e = x.fst.r.m.g e) (by intros; rfl)), (1, .le 83 1000000)]
    (V.need (∃ (x : Nat), 83 ≤ x)
    (V.any Nat (fun (c : Nat) => 83 ≤ c) fun (x_4 : Nat) => nN [(1, .eqI 1 1), (1, .eqI 3 3), (1, .eqI 1 1), (1, .eqI 9 9), (1, .eqI 8 8), (2, .eqI 1 1), (1, .eqI 0 0), (1, .eqI 1 1), (1, .eq 1 1), qE x_1.fst, (1, .eq 0 0), qE x_1.snd.fst, (1, .eq 83 83), qE x_4, qE x_2.v, (1, .le 1 1)]
    (V.need (1 ≤ 1 ∧ 1 ≤ x_1.fst)
    (nN [(1, .pf (∀ (i e : Nat), i = 0 ∧ e < 1 → e = e) (by intros; rfl)), (1, .pf (∀ (i e : Nat), i = 0 ∧ e < 1 → 0 = 0) (by intros; rfl)), (1, .pf (∀ (i e : Nat), i = 0 ∧ e < 1 → x_1.snd.snd e = x_1.snd.snd e) (by intros; rfl)), (1, .le 1 1)]
    (V.need (0 ≤ 0 ∧ 0 ≤ x_1.snd.fst)
    (nN [(1, .pf (∀ (i e : Nat), i = 0 ∧ e < 0 → uP (fun (x : Nat) => Int.ofNat 0) 0 e = uP (fun (x : Nat) => Int.ofNat 0) 0 e) (by intros; rfl)), (1, .pf (∀ (i e : Nat), i = 0 ∧ e < 0 → uL (fun (x : Nat) => Int.ofNat 0) 0 e = uL (fun (x : Nat) => Int.ofNat 0) 0 e) (by intros; rfl)), (1, .pf (∀ (i e : Nat), i = 0 ∧ e < 0 → uD (fun (x : Nat) => Int.ofNat 0) 0 e = uD (fun (x : Nat) => Int.ofNat 0) 0 e) (by intros; rfl))]
    (V.need (∀ (i : Nat), i < 1 → 0 ≤ gd 1 (fun (x : Nat) => 0) i ∧ 0 ≤ gd 1 x_1.snd.snd i)
    (nN [(1, .pf (∀ (i e : Nat), i < 1 ∧ e < 0 → cO (fun (x : Nat) => Int.ofNat 0) 0 i e = cO (fun (x : Nat) => Int.ofNat 0) 0 i e) (by intros; rfl)), (1, .pf (∀ (i e : Nat), i < 1 ∧ e < 0 → cA (fun (x : Nat) => Int.ofNat 0) 0 i e = cA (fun (x : Nat) => Int.ofNat 0) 0 i e) (by intros; rfl)), (1, .pf (∀ (i e : Nat), i < 1 ∧ e < 0 → cB (fun (x : Nat) => Int.ofNat 0) 0 i e = cB (fun (x : Nat) => Int.ofNat 0) 0 i e) (by intros; rfl)), (1, .le 1 1)]
    (V.need (83 ≤ 83 ∧ 83 ≤ x_4)
    (nN [(1, .pf (∀ (i e : Nat), i = 0 ∧ e < 83 → x.fst.r.m.g e = x.fst.r.m.g e) (by intros; rfl))]
    (V.need (preEnt (Cf.mk (Int.ofNat 1) (Int.ofNat 3) (Int.ofNat 1) (Int.ofNat 9) (Int.ofNat 8) (Int.ofNat 1) (Int.ofNat 1) (Int.ofNat 0) (Int.ofNat 1) 1 x_1.fst 0 x_1.snd.fst (fun (e : Nat) => 0) x_1.snd.snd (fun (i e : Nat) => cO (fun (x : Nat) => Int.ofNat 0) 0 i e) (fun (i e : Nat) => cA (fun (x : Nat) => Int.ofNat 0) 0 i e) (fun (i e : Nat) => cB (fun (x : Nat) => Int.ofNat 0) 0 i e) (fun (e : Nat) => uP (fun (x : Nat) => Int.ofNat 0) 0 e) (fun (e : Nat) => uL (fun (x : Nat) => Int.ofNat 0) 0 e) fun (e : Nat) => uD (fun (x : Nat) => Int.ofNat 0) 0 e) 83 x.fst.r.m.g x_2.v)
    (V.br (decide (Int.ofNat 1 ≤ entN (Cf.mk (Int.ofNat 1) (Int.ofNat 3) (Int.ofNat 1) (Int.ofNat 9) (Int.ofNat 8) (Int.ofNat 1) (Int.ofNat 1) (Int.ofNat 0) (Int.ofNat 1) 1 x_1.fst 0 x_1.snd.fst (fun (e : Nat) => 0) x_1.snd.snd (fun (i e : Nat) => cO (fun (x : Nat) => Int.ofNat 0) 0 i e) (fun (i e : Nat) => cA (fun (x : Nat) => Int.ofNat 0) 0 i e) (fun (i e : Nat) => cB (fun (x : Nat) => Int.ofNat 0) 0 i e) (fun (e : Nat) => uP (fun (x : Nat) => Int.ofNat 0) 0 e) (fun (e : Nat) => uL (fun (x : Nat) => Int.ofNat 0) 0 e) fun (e : Nat) => uD (fun (x : Nat) => Int.ofNat 0) 0 e) x.fst.r.m.g x_2.v ∧ entN (Cf.mk (Int.ofNat 1) (Int.ofNat 3) (Int.ofNat 1) (Int.ofNat 9) (Int.ofNat 8) (Int.ofNat 1) (Int.ofNat 1) (Int.ofNat 0) (Int.ofNat 1) 1 x_1.fst 0 x_1.snd.fst (fun (e : Nat) => 0) x_1.snd.snd (fun (i e : Nat) => cO (fun (x : Nat) => Int.ofNat 0) 0 i e) (fun (i e : Nat) => cA (fun (x : Nat) => Int.ofNat 0) 0 i e) (fun (i e : Nat) => cB (fun (x : Nat) => Int.ofNat 0) 0 i e) (fun (e : Nat) => uP (fun (x : Nat) => Int.ofNat 0) 0 e) (fun (e : Nat) => uL (fun (x : Nat) => Int.ofNat 0) 0 e) fun (e : Nat) => uD (fun (x : Nat) => Int.ofNat 0) 0 e) x.fst.r.m.g x_2.v ≤ Int.ofNat 8))
    (V.need (∃ (x_5 : Nat), (entN (Cf.mk (Int.ofNat 1) (Int.ofNat 3) (Int.ofNat 1) (Int.ofNat 9) (Int.ofNat 8) (Int.ofNat 1) (Int.ofNat 1) (Int.ofNat 0) (Int.ofNat 1) 1 x_1.fst 0 x_1.snd.fst (fun (e : Nat) => 0) x_1.snd.snd (fun (i e : Nat) => cO (fun (x : Nat) => Int.ofNat 0) 0 i e) (fun (i e : Nat) => cA (fun (x : Nat) => Int.ofNat 0) 0 i e) (fun (i e : Nat) => cB (fun (x : Nat) => Int.ofNat 0) 0 i e) (fun (e : Nat) => uP (fun (x : Nat) => Int.ofNat 0) 0 e) (fun (e : Nat) => uL (fun (x : Nat) => Int.ofNat 0) 0 e) fun (e : Nat) => uD (fun (x : Nat) => Int.ofNat 0) 0 e) x.fst.r.m.g x_2.v).toNat ≤ x_5)
    (V.any Nat (fun (cp : Nat) => (entN (Cf.mk (Int.ofNat 1) (Int.ofNat 3) (Int.ofNat 1) (Int.ofNat 9) (Int.ofNat 8) (Int.ofNat 1) (Int.ofNat 1) (Int.ofNat 0) (Int.ofNat 1) 1 x_1.fst 0 x_1.snd.fst (fun (e : Nat) => 0) x_1.snd.snd (fun (i e : Nat) => cO (fun (x : Nat) => Int.ofNat 0) 0 i e) (fun (i e : Nat) => cA (fun (x : Nat) => Int.ofNat 0) 0 i e) (fun (i e : Nat) => cB (fun (x : Nat) => Int.ofNat 0) 0 i e) (fun (e : Nat) => uP (fun (x : Nat) => Int.ofNat 0) 0 e) (fun (e : Nat) => uL (fun (x : Nat) => Int.ofNat 0) 0 e) fun (e : Nat) => uD (fun (x : Nat) => Int.ofNat 0) 0 e) x.fst.r.m.g x_2.v).toNat ≤ cp) fun (x_5 : Nat) => V.br (x.fst.r.c == Int.ofNat 1)
    (V.br (x.fst.r.v == x_2.w)
    (nN [(3, .lt2 0 1 0 1)]
    (V.br ((↑x.fst.r.l.n : Int) == IntKind.i64.wrap ((↑x_2.n : Int) + Int.ofNat 1))
    (V.br ((↑(entN (Cf.mk (Int.ofNat 1) (Int.ofNat 3) (Int.ofNat 1) (Int.ofNat 9) (Int.ofNat 8) (Int.ofNat 1) (Int.ofNat 1) (Int.ofNat 0) (Int.ofNat 1) 1 x_1.fst 0 x_1.snd.fst (fun (e : Nat) => 0) x_1.snd.snd (fun (i e : Nat) => cO (fun (x : Nat) => Int.ofNat 0) 0 i e) (fun (i e : Nat) => cA (fun (x : Nat) => Int.ofNat 0) 0 i e) (fun (i e : Nat) => cB (fun (x : Nat) => Int.ofNat 0) 0 i e) (fun (e : Nat) => uP (fun (x : Nat) => Int.ofNat 0) 0 e) (fun (e : Nat) => uL (fun (x : Nat) => Int.ofNat 0) 0 e) fun (e : Nat) => uD (fun (x : Nat) => Int.ofNat 0) 0 e) x.fst.r.m.g x_2.v).toNat : Int) == x_2.q)
    (nN [(14, .lt2 0 1 0 1), (1, .eqI 1 1), (1, .eqI 3 3), (1, .eqI 1 1), (1, .eqI 9 9), (1, .eqI 8 8), (2, .eqI 1 1), (1, .eqI 0 0), (1, .eqI 1 1), (1, .eq 1 1), qE x_1.fst, (1, .eq 0 0), qE x_1.snd.fst, qE x_2.w, (1, .eqI 0 0), (1, .le 1 1), (1, .pf (∀ (i : Nat), i < 1 → 1 ≤ 1) (by intros; exact Nat.le_refl _)), (1, .pf (∀ (i e : Nat), i < 1 ∧ e < 1 → e = e) (by intros; rfl)), (1, .pf (∀ (i e : Nat), i < 1 ∧ e < 1 → 0 = 0) (by intros; rfl)), (1, .pf (∀ (i e : Nat), i < 1 ∧ e < 1 → x_1.snd.snd e = x_1.snd.snd e) (by intros; rfl)), (1, .le 1 1), (1, .pf (∀ (i : Nat), i < 1 → 0 ≤ 0) (by intros; exact Nat.le_refl _)), (1, .pf (∀ (i e : Nat), i < 1 ∧ e < 0 → uP (fun (x : Nat) => Int.ofNat 0) 0 e = uP (fun (x : Nat) => Int.ofNat 0) 0 e) (by intros; rfl)), (1, .pf (∀ (i e : Nat), i < 1 ∧ e < 0 → uL (fun (x : Nat) => Int.ofNat 0) 0 e = uL (fun (x : Nat) => Int.ofNat 0) 0 e) (by intros; rfl)), (1, .pf (∀ (i e : Nat), i < 1 ∧ e < 0 → uD (fun (x : Nat) => Int.ofNat 0) 0 e = uD (fun (x : Nat) => Int.ofNat 0) 0 e) (by intros; rfl))]
    (V.need (∀ (i : Nat), i < 1 → 0 ≤ gd 1 (fun (x : Nat) => 0) i ∧ 0 ≤ gd 1 x_1.snd.snd i)
    (nN [(1, .pf (∀ (i e : Nat), i < 1 ∧ e < 0 → cO (fun (x : Nat) => Int.ofNat 0) 0 i e = cO (fun (x : Nat) => Int.ofNat 0) 0 i e) (by intros; rfl)), (1, .pf (∀ (i e : Nat), i < 1 ∧ e < 0 → cA (fun (x : Nat) => Int.ofNat 0) 0 i e = cA (fun (x : Nat) => Int.ofNat 0) 0 i e) (by intros; rfl)), (1, .pf (∀ (i e : Nat), i < 1 ∧ e < 0 → cB (fun (x : Nat) => Int.ofNat 0) 0 i e = cB (fun (x : Nat) => Int.ofNat 0) 0 i e) (by intros; rfl))]
    (V.need (preTk (Cf.mk (Int.ofNat 1) (Int.ofNat 3) (Int.ofNat 1) (Int.ofNat 9) (Int.ofNat 8) (Int.ofNat 1) (Int.ofNat 1) (Int.ofNat 0) (Int.ofNat 1) 1 x_1.fst 0 x_1.snd.fst (fun (e : Nat) => 0) x_1.snd.snd (fun (i e : Nat) => cO (fun (x : Nat) => Int.ofNat 0) 0 i e) (fun (i e : Nat) => cA (fun (x : Nat) => Int.ofNat 0) 0 i e) (fun (i e : Nat) => cB (fun (x : Nat) => Int.ofNat 0) 0 i e) (fun (e : Nat) => uP (fun (x : Nat) => Int.ofNat 0) 0 e) (fun (e : Nat) => uL (fun (x : Nat) => Int.ofNat 0) 0 e) fun (e : Nat) => uD (fun (x : Nat) => Int.ofNat 0) 0 e) x_2.w (Int.ofNat 0))
    (V.need (∃ (x : Int), x = lT (Cf.mk (Int.ofNat 1) (Int.ofNat 3) (Int.ofNat 1) (Int.ofNat 9) (Int.ofNat 8) (Int.ofNat 1) (Int.ofNat 1) (Int.ofNat 0) (Int.ofNat 1) 1 x_1.fst 0 x_1.snd.fst (fun (e : Nat) => 0) x_1.snd.snd (fun (i e : Nat) => cO (fun (x : Nat) => Int.ofNat 0) 0 i e) (fun (i e : Nat) => cA (fun (x : Nat) => Int.ofNat 0) 0 i e) (fun (i e : Nat) => cB (fun (x : Nat) => Int.ofNat 0) 0 i e) (fun (e : Nat) => uP (fun (x : Nat) => Int.ofNat 0) 0 e) (fun (e : Nat) => uL (fun (x : Nat) => Int.ofNat 0) 0 e) fun (e : Nat) => uD (fun (x : Nat) => Int.ofNat 0) 0 e) + x_2.w * Int.ofNat 5 + Int.ofNat 0)
    (V.any Int (fun (r : Int) => r = lT (Cf.mk (Int.ofNat 1) (Int.ofNat 3) (Int.ofNat 1) (Int.ofNat 9) (Int.ofNat 8) (Int.ofNat 1) (Int.ofNat 1) (Int.ofNat 0) (Int.ofNat 1) 1 x_1.fst 0 x_1.snd.fst (fun (e : Nat) => 0) x_1.snd.snd (fun (i e : Nat) => cO (fun (x : Nat) => Int.ofNat 0) 0 i e) (fun (i e : Nat) => cA (fun (x : Nat) => Int.ofNat 0) 0 i e) (fun (i e : Nat) => cB (fun (x : Nat) => Int.ofNat 0) 0 i e) (fun (e : Nat) => uP (fun (x : Nat) => Int.ofNat 0) 0 e) (fun (e : Nat) => uL (fun (x : Nat) => Int.ofNat 0) 0 e) fun (e : Nat) => uD (fun (x : Nat) => Int.ofNat 0) 0 e) + x_2.w * Int.ofNat 5 + Int.ofNat 0) fun (x_6 : Int) => nN [qE x_6, qE x.fst.r.m.ct, (1, .le 1 1), (1, .le2 83 83 83 83), (1, .pf (∀ (i e : Nat), i = 0 ∧ e < 83 → x.fst.r.m.g e = x.fst.r.m.g e) (by intros; rfl)), qX (x.fst.r.m.val 83 x_6)]
    (V.any Int (fun (v : Int) => v = x.fst.r.m.val 83 x_6) fun (x : Int) => V.need ((x == Int.ofNat 2) = true) V.ok)))))))
    (V.bad 420))
    (V.bad 420)))
    (V.bad 420))
    (V.bad 420)))
    (V.br (x.fst.r.c == Int.ofNat 1)
    (V.br (x.fst.r.v == x_2.w)
    (nN [(3, .lt2 0 1 0 1)]
    (V.br ((↑x.fst.r.l.n : Int) == IntKind.i64.wrap ((↑x_2.n : Int) + Int.ofNat 1))
    (V.br (Int.ofNat 0 == x_2.q)
    (nN [(14, .lt2 0 1 0 1), (1, .eqI 1 1), (1, .eqI 3 3), (1, .eqI 1 1), (1, .eqI 9 9), (1, .eqI 8 8), (2, .eqI 1 1), (1, .eqI 0 0), (1, .eqI 1 1), (1, .eq 1 1), qE x_1.fst, (1, .eq 0 0), qE x_1.snd.fst, qE x_2.w, (1, .eqI 0 0), (1, .le 1 1), (1, .pf (∀ (i : Nat), i < 1 → 1 ≤ 1) (by intros; exact Nat.le_refl _)), (1, .pf (∀ (i e : Nat), i < 1 ∧ e < 1 → e = e) (by intros; rfl)), (1, .pf (∀ (i e : Nat), i < 1 ∧ e < 1 → 0 = 0) (by intros; rfl)), (1, .pf (∀ (i e : Nat), i < 1 ∧ e < 1 → x_1.snd.snd e = x_1.snd.snd e) (by intros; rfl)), (1, .le 1 1), (1, .pf (∀ (i : Nat), i < 1 → 0 ≤ 0) (by intros; exact Nat.le_refl _)), (1, .pf (∀ (i e : Nat), i < 1 ∧ e < 0 → uP (fun (x : Nat) => Int.ofNat 0) 0 e = uP (fun (x : Nat) => Int.ofNat 0) 0 e) (by intros; rfl)), (1, .pf (∀ (i e : Nat), i < 1 ∧ e < 0 → uL (fun (x : Nat) => Int.ofNat 0) 0 e = uL (fun (x : Nat) => Int.ofNat 0) 0 e) (by intros; rfl)), (1, .pf (∀ (i e : Nat), i < 1 ∧ e < 0 → uD (fun (x : Nat) => Int.ofNat 0) 0 e = uD (fun (x : Nat) => Int.ofNat 0) 0 e) (by intros; rfl))]
    (V.need (∀ (i : Nat), i < 1 → 0 ≤ gd 1 (fun (x : Nat) => 0) i ∧ 0 ≤ gd 1 x_1.snd.snd i)
    (nN [(1, .pf (∀ (i e : Nat), i < 1 ∧ e < 0 → cO (fun (x : Nat) => Int.ofNat 0) 0 i e = cO (fun (x : Nat) => Int.ofNat 0) 0 i e) (by intros; rfl)), (1, .pf (∀ (i e : Nat), i < 1 ∧ e < 0 → cA (fun (x : Nat) => Int.ofNat 0) 0 i e = cA (fun (x : Nat) => Int.ofNat 0) 0 i e) (by intros; rfl)), (1, .pf (∀ (i e : Nat), i < 1 ∧ e < 0 → cB (fun (x : Nat) => Int.ofNat 0) 0 i e = cB (fun (x : Nat) => Int.ofNat 0) 0 i e) (by intros; rfl))]
    (V.need (preTk (Cf.mk (Int.ofNat 1) (Int.ofNat 3) (Int.ofNat 1) (Int.ofNat 9) (Int.ofNat 8) (Int.ofNat 1) (Int.ofNat 1) (Int.ofNat 0) (Int.ofNat 1) 1 x_1.fst 0 x_1.snd.fst (fun (e : Nat) => 0) x_1.snd.snd (fun (i e : Nat) => cO (fun (x : Nat) => Int.ofNat 0) 0 i e) (fun (i e : Nat) => cA (fun (x : Nat) => Int.ofNat 0) 0 i e) (fun (i e : Nat) => cB (fun (x : Nat) => Int.ofNat 0) 0 i e) (fun (e : Nat) => uP (fun (x : Nat) => Int.ofNat 0) 0 e) (fun (e : Nat) => uL (fun (x : Nat) => Int.ofNat 0) 0 e) fun (e : Nat) => uD (fun (x : Nat) => Int.ofNat 0) 0 e) x_2.w (Int.ofNat 0))
    (V.need (∃ (x : Int), x = lT (Cf.mk (Int.ofNat 1) (Int.ofNat 3) (Int.ofNat 1) (Int.ofNat 9) (Int.ofNat 8) (Int.ofNat 1) (Int.ofNat 1) (Int.ofNat 0) (Int.ofNat 1) 1 x_1.fst 0 x_1.snd.fst (fun (e : Nat) => 0) x_1.snd.snd (fun (i e : Nat) => cO (fun (x : Nat) => Int.ofNat 0) 0 i e) (fun (i e : Nat) => cA (fun (x : Nat) => Int.ofNat 0) 0 i e) (fun (i e : Nat) => cB (fun (x : Nat) => Int.ofNat 0) 0 i e) (fun (e : Nat) => uP (fun (x : Nat) => Int.ofNat 0) 0 e) (fun (e : Nat) => uL (fun (x : Nat) => Int.ofNat 0) 0 e) fun (e : Nat) => uD (fun (x : Nat) => Int.ofNat 0) 0 e) + x_2.w * Int.ofNat 5 + Int.ofNat 0)
    (V.any Int (fun (r : Int) => r = lT (Cf.mk (Int.ofNat 1) (Int.ofNat 3) (Int.ofNat 1) (Int.ofNat 9) (Int.ofNat 8) (Int.ofNat 1) (Int.ofNat 1) (Int.ofNat 0) (Int.ofNat 1) 1 x_1.fst 0 x_1.snd.fst (fun (e : Nat) => 0) x_1.snd.snd (fun (i e : Nat) => cO (fun (x : Nat) => Int.ofNat 0) 0 i e) (fun (i e : Nat) => cA (fun (x : Nat) => Int.ofNat 0) 0 i e) (fun (i e : Nat) => cB (fun (x : Nat) => Int.ofNat 0) 0 i e) (fun (e : Nat) => uP (fun (x : Nat) => Int.ofNat 0) 0 e) (fun (e : Nat) => uL (fun (x : Nat) => Int.ofNat 0) 0 e) fun (e : Nat) => uD (fun (x : Nat) => Int.ofNat 0) 0 e) + x_2.w * Int.ofNat 5 + Int.ofNat 0) fun (x_5 : Int) => nN [qE x_5, qE x.fst.r.m.ct, (1, .le 1 1), (1, .le2 83 83 83 83), (1, .pf (∀ (i e : Nat), i = 0 ∧ e < 83 → x.fst.r.m.g e = x.fst.r.m.g e) (by intros; rfl)), qX (x.fst.r.m.val 83 x_5)]
    (V.any Int (fun (v : Int) => v = x.fst.r.m.val 83 x_5) fun (x : Int) => V.need ((x == Int.ofNat 2) = true) V.ok)))))))
    (V.bad 420))
    (V.bad 420)))
    (V.bad 420))
    (V.bad 420)))))))))))))))))))))))))
    (V.need (Int.ofNat 600 = (↑600 : Int))
    (nN [(1, .eqI 1 1), (1, .eqI 3 3), (1, .eqI 1 1), (1, .eqI 9 9), (1, .eqI 8 8), (1, .eqI 1 1), (1, .eqI 5 5), (1, .eqI 6 6), (1, .eqI 7 7), (1, .eqI 8 8), (1, .eqI 38 38), (1, .eq 9 9), qE x.rc, (2, .eq 0 0), qE x.m.lk, qE x.m.lc, qE x.m.lo, qE x.m.ln, qE x.m.ct, (1, .eq 83 83), (1, .le 83 83), qF 83 x.m.g, (1, .eqI 0 0), (1, .eq 0 0), (1, .le 0 0), qF 0 (fun (e : Nat) => Int.ofNat 0), qF 0 (fun (e : Nat) => Int.ofNat 0), qF 0 (fun (e : Nat) => Int.ofNat 0), qF 0 (fun (e : Nat) => Int.ofNat 0), qF 0 (fun (e : Nat) => Int.ofNat 0), (2, .eqI 0 0), qE x.rc, (1, .le 9 9), qF 9 (fun (e : Nat) => false)]
    (V.need (preTa (Ly.mk (Int.ofNat 1) (Int.ofNat 3) (Int.ofNat 1) (Int.ofNat 9) (Int.ofNat 8) (Int.ofNat 1) (Int.ofNat 5) (Int.ofNat 6) (Int.ofNat 7) (Int.ofNat 8) (Int.ofNat 38)) 83 (Int.ofNat 0) 9 600 x.m (El.mk 0 (Evs.mk (fun (i : Nat) => Int.ofNat 0) (fun (i : Nat) => Int.ofNat 0) (fun (i : Nat) => Int.ofNat 0) (fun (i : Nat) => Int.ofNat 0) fun (i : Nat) => Int.ofNat 0)) 0 fun (e : Nat) => false)
    (V.need (∃ (x_3 : Rt × Nat), φTa (Ly.mk (Int.ofNat 1) (Int.ofNat 3) (Int.ofNat 1) (Int.ofNat 9) (Int.ofNat 8) (Int.ofNat 1) (Int.ofNat 5) (Int.ofNat 6) (Int.ofNat 7) (Int.ofNat 8) (Int.ofNat 38)) 83 (Int.ofNat 0) 9 600 x.m (El.mk 0 (Evs.mk (fun (i : Nat) => Int.ofNat 0) (fun (i : Nat) => Int.ofNat 0) (fun (i : Nat) => Int.ofNat 0) (fun (i : Nat) => Int.ofNat 0) fun (i : Nat) => Int.ofNat 0)) (fun (e : Nat) => false) x_3)
    (V.any (Rt × Nat) (φTa (Ly.mk (Int.ofNat 1) (Int.ofNat 3) (Int.ofNat 1) (Int.ofNat 9) (Int.ofNat 8) (Int.ofNat 1) (Int.ofNat 5) (Int.ofNat 6) (Int.ofNat 7) (Int.ofNat 8) (Int.ofNat 38)) 83 (Int.ofNat 0) 9 600 x.m (El.mk 0 (Evs.mk (fun (i : Nat) => Int.ofNat 0) (fun (i : Nat) => Int.ofNat 0) (fun (i : Nat) => Int.ofNat 0) (fun (i : Nat) => Int.ofNat 0) fun (i : Nat) => Int.ofNat 0)) fun (e : Nat) => false) fun (x : Rt × Nat) => V.br (decide ((↑x.fst.r.l.n : Int) < (↑x_2.n : Int)))
    (V.bad 420)
    (V.need (I3 0)
    (V.need (Int.ofNat 0 = (↑0 : Int))
    (V.any Nat I3 fun (x_3 : Nat) => V.br (decide ((↑x_3 : Int) < (↑x_2.n : Int)))
    (nN [(3, .lt2 0 1 0 1)]
    (V.need (Int.ofNat 0 ≤ (↑x_3 : Int) ∧ (↑x_3 : Int) < (↑x.fst.r.l.n : Int))
    (V.need (0 < 1 ∧ 0 + (↑x_3 : Int).toNat < x.fst.r.l.n)
    (V.need (0 < 1 ∧ 0 + (↑x_3 : Int).toNat < x.fst.r.l.n)
    (V.need (0 < 1 ∧ 0 + (↑x_3 : Int).toNat < x.fst.r.l.n)
    (V.need (0 < 1 ∧ 0 + (↑x_3 : Int).toNat < x.fst.r.l.n)
    (V.need (0 < 1 ∧ 0 + (↑x_3 : Int).toNat < x.fst.r.l.n)
    (V.need (0 < 1 ∧ 0 + (↑x_3 : Int).toNat < x.fst.r.l.n)
    (V.need (Int.ofNat 0 ≤ (↑x_3 : Int) ∧ (↑x_3 : Int) < (↑x_2.n : Int))
    (V.need (0 < 1 ∧ 0 + (↑x_3 : Int).toNat < x_2.n)
    (V.need (0 < 1 ∧ 0 + (↑x_3 : Int).toNat < x_2.n)
    (V.br (!(x.fst.r.l.v.k (0 + (↑x_3 : Int).toNat) == Int.ofNat 15 && (x.fst.r.l.v.w (0 + (↑x_3 : Int).toNat) == Int.ofNat 0 && (x.fst.r.l.v.t (0 + (↑x_3 : Int).toNat) == x_2.a (0 + (↑x_3 : Int).toNat) && (x.fst.r.l.v.o (0 + (↑x_3 : Int).toNat) == Int.ofNat 0 && (x.fst.r.l.v.l (0 + (↑x_3 : Int).toNat) == Int.ofNat 0 && true))))))
    (V.bad 420)
    (V.need (I3 (IntKind.i64.wrap ((↑x_3 : Int) + Int.ofNat 1)).toNat)
    (V.need (x_2.n - (IntKind.i64.wrap ((↑x_3 : Int) + Int.ofNat 1)).toNat < x_2.n - x_3)
    (V.need (IntKind.i64.wrap ((↑x_3 : Int) + Int.ofNat 1) = (↑(IntKind.i64.wrap ((↑x_3 : Int) + Int.ofNat 1)).toNat : Int)) V.ok)))))))))))))))
    (V.br (decide (x_2.w < Int.ofNat 0))
    (V.br (x.fst.r.c == Int.ofNat 2)
    (V.need (((↑x.fst.r.l.n : Int) == (↑x_2.n : Int)) = true) V.ok)
    (V.bad 420))
    (nN [(17, .lt2 0 1 0 1), (2, .eq 83 83), (1, .le 1 1), (1, .pf (∀ (i : Nat), i < 1 → 83 ≤ 83) (by intros; exact Nat.le_refl _)), (1, .pf (∀ (i e : Nat), i < 1 ∧ e < 83 → x.fst.r.m.g e = x.fst.r.m.g e) (by intros; rfl)), (1, .le 83 1000000)]
    (V.need (∃ (x : Nat), 83 ≤ x)
    (V.any Nat (fun (c : Nat) => 83 ≤ c) fun (x_4 : Nat) => nN [(1, .eqI 1 1), (1, .eqI 3 3), (1, .eqI 1 1), (1, .eqI 9 9), (1, .eqI 8 8), (2, .eqI 1 1), (1, .eqI 0 0), (1, .eqI 1 1), (1, .eq 1 1), qE x_1.fst, (1, .eq 0 0), qE x_1.snd.fst, (1, .eq 83 83), qE x_4, qE x_2.v, (1, .le 1 1)]
    (V.need (1 ≤ 1 ∧ 1 ≤ x_1.fst)
    (nN [(1, .pf (∀ (i e : Nat), i = 0 ∧ e < 1 → e = e) (by intros; rfl)), (1, .pf (∀ (i e : Nat), i = 0 ∧ e < 1 → 0 = 0) (by intros; rfl)), (1, .pf (∀ (i e : Nat), i = 0 ∧ e < 1 → x_1.snd.snd e = x_1.snd.snd e) (by intros; rfl)), (1, .le 1 1)]
    (V.need (0 ≤ 0 ∧ 0 ≤ x_1.snd.fst)
    (nN [(1, .pf (∀ (i e : Nat), i = 0 ∧ e < 0 → uP (fun (x : Nat) => Int.ofNat 0) 0 e = uP (fun (x : Nat) => Int.ofNat 0) 0 e) (by intros; rfl)), (1, .pf (∀ (i e : Nat), i = 0 ∧ e < 0 → uL (fun (x : Nat) => Int.ofNat 0) 0 e = uL (fun (x : Nat) => Int.ofNat 0) 0 e) (by intros; rfl)), (1, .pf (∀ (i e : Nat), i = 0 ∧ e < 0 → uD (fun (x : Nat) => Int.ofNat 0) 0 e = uD (fun (x : Nat) => Int.ofNat 0) 0 e) (by intros; rfl))]
    (V.need (∀ (i : Nat), i < 1 → 0 ≤ gd 1 (fun (x : Nat) => 0) i ∧ 0 ≤ gd 1 x_1.snd.snd i)
    (nN [(1, .pf (∀ (i e : Nat), i < 1 ∧ e < 0 → cO (fun (x : Nat) => Int.ofNat 0) 0 i e = cO (fun (x : Nat) => Int.ofNat 0) 0 i e) (by intros; rfl)), (1, .pf (∀ (i e : Nat), i < 1 ∧ e < 0 → cA (fun (x : Nat) => Int.ofNat 0) 0 i e = cA (fun (x : Nat) => Int.ofNat 0) 0 i e) (by intros; rfl)), (1, .pf (∀ (i e : Nat), i < 1 ∧ e < 0 → cB (fun (x : Nat) => Int.ofNat 0) 0 i e = cB (fun (x : Nat) => Int.ofNat 0) 0 i e) (by intros; rfl)), (1, .le 1 1)]
    (V.need (83 ≤ 83 ∧ 83 ≤ x_4)
    (nN [(1, .pf (∀ (i e : Nat), i = 0 ∧ e < 83 → x.fst.r.m.g e = x.fst.r.m.g e) (by intros; rfl))]
    (V.need (preEnt (Cf.mk (Int.ofNat 1) (Int.ofNat 3) (Int.ofNat 1) (Int.ofNat 9) (Int.ofNat 8) (Int.ofNat 1) (Int.ofNat 1) (Int.ofNat 0) (Int.ofNat 1) 1 x_1.fst 0 x_1.snd.fst (fun (e : Nat) => 0) x_1.snd.snd (fun (i e : Nat) => cO (fun (x : Nat) => Int.ofNat 0) 0 i e) (fun (i e : Nat) => cA (fun (x : Nat) => Int.ofNat 0) 0 i e) (fun (i e : Nat) => cB (fun (x : Nat) => Int.ofNat 0) 0 i e) (fun (e : Nat) => uP (fun (x : Nat) => Int.ofNat 0) 0 e) (fun (e : Nat) => uL (fun (x : Nat) => Int.ofNat 0) 0 e) fun (e : Nat) => uD (fun (x : Nat) => Int.ofNat 0) 0 e) 83 x.fst.r.m.g x_2.v)
    (V.br (decide (Int.ofNat 1 ≤ entN (Cf.mk (Int.ofNat 1) (Int.ofNat 3) (Int.ofNat 1) (Int.ofNat 9) (Int.ofNat 8) (Int.ofNat 1) (Int.ofNat 1) (Int.ofNat 0) (Int.ofNat 1) 1 x_1.fst 0 x_1.snd.fst (fun (e : Nat) => 0) x_1.snd.snd (fun (i e : Nat) => cO (fun (x : Nat) => Int.ofNat 0) 0 i e) (fun (i e : Nat) => cA (fun (x : Nat) => Int.ofNat 0) 0 i e) (fun (i e : Nat) => cB (fun (x : Nat) => Int.ofNat 0) 0 i e) (fun (e : Nat) => uP (fun (x : Nat) => Int.ofNat 0) 0 e) (fun (e : Nat) => uL (fun (x : Nat) => Int.ofNat 0) 0 e) fun (e : Nat) => uD (fun (x : Nat) => Int.ofNat 0) 0 e) x.fst.r.m.g x_2.v ∧ entN (Cf.mk (Int.ofNat 1) (Int.ofNat 3) (Int.ofNat 1) (Int.ofNat 9) (Int.ofNat 8) (Int.ofNat 1) (Int.ofNat 1) (Int.ofNat 0) (Int.ofNat 1) 1 x_1.fst 0 x_1.snd.fst (fun (e : Nat) => 0) x_1.snd.snd (fun (i e : Nat) => cO (fun (x : Nat) => Int.ofNat 0) 0 i e) (fun (i e : Nat) => cA (fun (x : Nat) => Int.ofNat 0) 0 i e) (fun (i e : Nat) => cB (fun (x : Nat) => Int.ofNat 0) 0 i e) (fun (e : Nat) => uP (fun (x : Nat) => Int.ofNat 0) 0 e) (fun (e : Nat) => uL (fun (x : Nat) => Int.ofNat 0) 0 e) fun (e : Nat) => uD (fun (x : Nat) => Int.ofNat 0) 0 e) x.fst.r.m.g x_2.v ≤ Int.ofNat 8))
    (V.need (∃ (x_5 : Nat), (entN (Cf.mk (Int.ofNat 1) (Int.ofNat 3) (Int.ofNat 1) (Int.ofNat 9) (Int.ofNat 8) (Int.ofNat 1) (Int.ofNat 1) (Int.ofNat 0) (Int.ofNat 1) 1 x_1.fst 0 x_1.snd.fst (fun (e : Nat) => 0) x_1.snd.snd (fun (i e : Nat) => cO (fun (x : Nat) => Int.ofNat 0) 0 i e) (fun (i e : Nat) => cA (fun (x : Nat) => Int.ofNat 0) 0 i e) (fun (i e : Nat) => cB (fun (x : Nat) => Int.ofNat 0) 0 i e) (fun (e : Nat) => uP (fun (x : Nat) => Int.ofNat 0) 0 e) (fun (e : Nat) => uL (fun (x : Nat) => Int.ofNat 0) 0 e) fun (e : Nat) => uD (fun (x : Nat) => Int.ofNat 0) 0 e) x.fst.r.m.g x_2.v).toNat ≤ x_5)
    (V.any Nat (fun (cp : Nat) => (entN (Cf.mk (Int.ofNat 1) (Int.ofNat 3) (Int.ofNat 1) (Int.ofNat 9) (Int.ofNat 8) (Int.ofNat 1) (Int.ofNat 1) (Int.ofNat 0) (Int.ofNat 1) 1 x_1.fst 0 x_1.snd.fst (fun (e : Nat) => 0) x_1.snd.snd (fun (i e : Nat) => cO (fun (x : Nat) => Int.ofNat 0) 0 i e) (fun (i e : Nat) => cA (fun (x : Nat) => Int.ofNat 0) 0 i e) (fun (i e : Nat) => cB (fun (x : Nat) => Int.ofNat 0) 0 i e) (fun (e : Nat) => uP (fun (x : Nat) => Int.ofNat 0) 0 e) (fun (e : Nat) => uL (fun (x : Nat) => Int.ofNat 0) 0 e) fun (e : Nat) => uD (fun (x : Nat) => Int.ofNat 0) 0 e) x.fst.r.m.g x_2.v).toNat ≤ cp) fun (x_5 : Nat) => V.br (x.fst.r.c == Int.ofNat 1)
    (V.br (x.fst.r.v == x_2.w)
    (nN [(3, .lt2 0 1 0 1)]
    (V.br ((↑x.fst.r.l.n : Int) == IntKind.i64.wrap ((↑x_2.n : Int) + Int.ofNat 1))
    (V.br ((↑(entN (Cf.mk (Int.ofNat 1) (Int.ofNat 3) (Int.ofNat 1) (Int.ofNat 9) (Int.ofNat 8) (Int.ofNat 1) (Int.ofNat 1) (Int.ofNat 0) (Int.ofNat 1) 1 x_1.fst 0 x_1.snd.fst (fun (e : Nat) => 0) x_1.snd.snd (fun (i e : Nat) => cO (fun (x : Nat) => Int.ofNat 0) 0 i e) (fun (i e : Nat) => cA (fun (x : Nat) => Int.ofNat 0) 0 i e) (fun (i e : Nat) => cB (fun (x : Nat) => Int.ofNat 0) 0 i e) (fun (e : Nat) => uP (fun (x : Nat) => Int.ofNat 0) 0 e) (fun (e : Nat) => uL (fun (x : Nat) => Int.ofNat 0) 0 e) fun (e : Nat) => uD (fun (x : Nat) => Int.ofNat 0) 0 e) x.fst.r.m.g x_2.v).toNat : Int) == x_2.q)
    (nN [(14, .lt2 0 1 0 1), (1, .eqI 1 1), (1, .eqI 3 3), (1, .eqI 1 1), (1, .eqI 9 9), (1, .eqI 8 8), (2, .eqI 1 1), (1, .eqI 0 0), (1, .eqI 1 1), (1, .eq 1 1), qE x_1.fst, (1, .eq 0 0), qE x_1.snd.fst, qE x_2.w, (1, .eqI 0 0), (1, .le 1 1), (1, .pf (∀ (i : Nat), i < 1 → 1 ≤ 1) (by intros; exact Nat.le_refl _)), (1, .pf (∀ (i e : Nat), i < 1 ∧ e < 1 → e = e) (by intros; rfl)), (1, .pf (∀ (i e : Nat), i < 1 ∧ e < 1 → 0 = 0) (by intros; rfl)), (1, .pf (∀ (i e : Nat), i < 1 ∧ e < 1 → x_1.snd.snd e = x_1.snd.snd e) (by intros; rfl)), (1, .le 1 1), (1, .pf (∀ (i : Nat), i < 1 → 0 ≤ 0) (by intros; exact Nat.le_refl _)), (1, .pf (∀ (i e : Nat), i < 1 ∧ e < 0 → uP (fun (x : Nat) => Int.ofNat 0) 0 e = uP (fun (x : Nat) => Int.ofNat 0) 0 e) (by intros; rfl)), (1, .pf (∀ (i e : Nat), i < 1 ∧ e < 0 → uL (fun (x : Nat) => Int.ofNat 0) 0 e = uL (fun (x : Nat) => Int.ofNat 0) 0 e) (by intros; rfl)), (1, .pf (∀ (i e : Nat), i < 1 ∧ e < 0 → uD (fun (x : Nat) => Int.ofNat 0) 0 e = uD (fun (x : Nat) => Int.ofNat 0) 0 e) (by intros; rfl))]
    (V.need (∀ (i : Nat), i < 1 → 0 ≤ gd 1 (fun (x : Nat) => 0) i ∧ 0 ≤ gd 1 x_1.snd.snd i)
    (nN [(1, .pf (∀ (i e : Nat), i < 1 ∧ e < 0 → cO (fun (x : Nat) => Int.ofNat 0) 0 i e = cO (fun (x : Nat) => Int.ofNat 0) 0 i e) (by intros; rfl)), (1, .pf (∀ (i e : Nat), i < 1 ∧ e < 0 → cA (fun (x : Nat) => Int.ofNat 0) 0 i e = cA (fun (x : Nat) => Int.ofNat 0) 0 i e) (by intros; rfl)), (1, .pf (∀ (i e : Nat), i < 1 ∧ e < 0 → cB (fun (x : Nat) => Int.ofNat 0) 0 i e = cB (fun (x : Nat) => Int.ofNat 0) 0 i e) (by intros; rfl))]
    (V.need (preTk (Cf.mk (Int.ofNat 1) (Int.ofNat 3) (Int.ofNat 1) (Int.ofNat 9) (Int.ofNat 8) (Int.ofNat 1) (Int.ofNat 1) (Int.ofNat 0) (Int.ofNat 1) 1 x_1.fst 0 x_1.snd.fst (fun (e : Nat) => 0) x_1.snd.snd (fun (i e : Nat) => cO (fun (x : Nat) => Int.ofNat 0) 0 i e) (fun (i e : Nat) => cA (fun (x : Nat) => Int.ofNat 0) 0 i e) (fun (i e : Nat) => cB (fun (x : Nat) => Int.ofNat 0) 0 i e) (fun (e : Nat) => uP (fun (x : Nat) => Int.ofNat 0) 0 e) (fun (e : Nat) => uL (fun (x : Nat) => Int.ofNat 0) 0 e) fun (e : Nat) => uD (fun (x : Nat) => Int.ofNat 0) 0 e) x_2.w (Int.ofNat 0))
    (V.need (∃ (x : Int), x = lT (Cf.mk (Int.ofNat 1) (Int.ofNat 3) (Int.ofNat 1) (Int.ofNat 9) (Int.ofNat 8) (Int.ofNat 1) (Int.ofNat 1) (Int.ofNat 0) (Int.ofNat 1) 1 x_1.fst 0 x_1.snd.fst (fun (e : Nat) => 0) x_1.snd.snd (fun (i e : Nat) => cO (fun (x : Nat) => Int.ofNat 0) 0 i e) (fun (i e : Nat) => cA (fun (x : Nat) => Int.ofNat 0) 0 i e) (fun (i e : Nat) => cB (fun (x : Nat) => Int.ofNat 0) 0 i e) (fun (e : Nat) => uP (fun (x : Nat) => Int.ofNat 0) 0 e) (fun (e : Nat) => uL (fun (x : Nat) => Int.ofNat 0) 0 e) fun (e : Nat) => uD (fun (x : Nat) => Int.ofNat 0) 0 e) + x_2.w * Int.ofNat 5 + Int.ofNat 0)
    (V.any Int (fun (r : Int) => r = lT (Cf.mk (Int.ofNat 1) (Int.ofNat 3) (Int.ofNat 1) (Int.ofNat 9) (Int.ofNat 8) (Int.ofNat 1) (Int.ofNat 1) (Int.ofNat 0) (Int.ofNat 1) 1 x_1.fst 0 x_1.snd.fst (fun (e : Nat) => 0) x_1.snd.snd (fun (i e : Nat) => cO (fun (x : Nat) => Int.ofNat 0) 0 i e) (fun (i e : Nat) => cA (fun (x : Nat) => Int.ofNat 0) 0 i e) (fun (i e : Nat) => cB (fun (x : Nat) => Int.ofNat 0) 0 i e) (fun (e : Nat) => uP (fun (x : Nat) => Int.ofNat 0) 0 e) (fun (e : Nat) => uL (fun (x : Nat) => Int.ofNat 0) 0 e) fun (e : Nat) => uD (fun (x : Nat) => Int.ofNat 0) 0 e) + x_2.w * Int.ofNat 5 + Int.ofNat 0) fun (x_6 : Int) => nN [qE x_6, qE x.fst.r.m.ct, (1, .le 1 1), (1, .le2 83 83 83 83), (1, .pf (∀ (i e : Nat), i = 0 ∧ e < 83 → x.fst.r.m.g e = x.fst.r.m.g e) (by intros; rfl)), qX (x.fst.r.m.val 83 x_6)]
    (V.any Int (fun (v : Int) => v = x.fst.r.m.val 83 x_6) fun (x : Int) => V.need ((x == Int.ofNat 2) = true) V.ok)))))))
    (V.bad 420))
    (V.bad 420)))
    (V.bad 420))
    (V.bad 420)))
    (V.br (x.fst.r.c == Int.ofNat 1)
    (V.br (x.fst.r.v == x_2.w)
    (nN [(3, .lt2 0 1 0 1)]
    (V.br ((↑x.fst.r.l.n : Int) == IntKind.i64.wrap ((↑x_2.n : Int) + Int.ofNat 1))
    (V.br (Int.ofNat 0 == x_2.q)
    (nN [(14, .lt2 0 1 0 1), (1, .eqI 1 1), (1, .eqI 3 3), (1, .eqI 1 1), (1, .eqI 9 9), (1, .eqI 8 8), (2, .eqI 1 1), (1, .eqI 0 0), (1, .eqI 1 1), (1, .eq 1 1), qE x_1.fst, (1, .eq 0 0), qE x_1.snd.fst, qE x_2.w, (1, .eqI 0 0), (1, .le 1 1), (1, .pf (∀ (i : Nat), i < 1 → 1 ≤ 1) (by intros; exact Nat.le_refl _)), (1, .pf (∀ (i e : Nat), i < 1 ∧ e < 1 → e = e) (by intros; rfl)), (1, .pf (∀ (i e : Nat), i < 1 ∧ e < 1 → 0 = 0) (by intros; rfl)), (1, .pf (∀ (i e : Nat), i < 1 ∧ e < 1 → x_1.snd.snd e = x_1.snd.snd e) (by intros; rfl)), (1, .le 1 1), (1, .pf (∀ (i : Nat), i < 1 → 0 ≤ 0) (by intros; exact Nat.le_refl _)), (1, .pf (∀ (i e : Nat), i < 1 ∧ e < 0 → uP (fun (x : Nat) => Int.ofNat 0) 0 e = uP (fun (x : Nat) => Int.ofNat 0) 0 e) (by intros; rfl)), (1, .pf (∀ (i e : Nat), i < 1 ∧ e < 0 → uL (fun (x : Nat) => Int.ofNat 0) 0 e = uL (fun (x : Nat) => Int.ofNat 0) 0 e) (by intros; rfl)), (1, .pf (∀ (i e : Nat), i < 1 ∧ e < 0 → uD (fun (x : Nat) => Int.ofNat 0) 0 e = uD (fun (x : Nat) => Int.ofNat 0) 0 e) (by intros; rfl))]
    (V.need (∀ (i : Nat), i < 1 → 0 ≤ gd 1 (fun (x : Nat) => 0) i ∧ 0 ≤ gd 1 x_1.snd.snd i)
    (nN [(1, .pf (∀ (i e : Nat), i < 1 ∧ e < 0 → cO (fun (x : Nat) => Int.ofNat 0) 0 i e = cO (fun (x : Nat) => Int.ofNat 0) 0 i e) (by intros; rfl)), (1, .pf (∀ (i e : Nat), i < 1 ∧ e < 0 → cA (fun (x : Nat) => Int.ofNat 0) 0 i e = cA (fun (x : Nat) => Int.ofNat 0) 0 i e) (by intros; rfl)), (1, .pf (∀ (i e : Nat), i < 1 ∧ e < 0 → cB (fun (x : Nat) => Int.ofNat 0) 0 i e = cB (fun (x : Nat) => Int.ofNat 0) 0 i e) (by intros; rfl))]
    (V.need (preTk (Cf.mk (Int.ofNat 1) (Int.ofNat 3) (Int.ofNat 1) (Int.ofNat 9) (Int.ofNat 8) (Int.ofNat 1) (Int.ofNat 1) (Int.ofNat 0) (Int.ofNat 1) 1 x_1.fst 0 x_1.snd.fst (fun (e : Nat) => 0) x_1.snd.snd (fun (i e : Nat) => cO (fun (x : Nat) => Int.ofNat 0) 0 i e) (fun (i e : Nat) => cA (fun (x : Nat) => Int.ofNat 0) 0 i e) (fun (i e : Nat) => cB (fun (x : Nat) => Int.ofNat 0) 0 i e) (fun (e : Nat) => uP (fun (x : Nat) => Int.ofNat 0) 0 e) (fun (e : Nat) => uL (fun (x : Nat) => Int.ofNat 0) 0 e) fun (e : Nat) => uD (fun (x : Nat) => Int.ofNat 0) 0 e) x_2.w (Int.ofNat 0))
    (V.need (∃ (x : Int), x = lT (Cf.mk (Int.ofNat 1) (Int.ofNat 3) (Int.ofNat 1) (Int.ofNat 9) (Int.ofNat 8) (Int.ofNat 1) (Int.ofNat 1) (Int.ofNat 0) (Int.ofNat 1) 1 x_1.fst 0 x_1.snd.fst (fun (e : Nat) => 0) x_1.snd.snd (fun (i e : Nat) => cO (fun (x : Nat) => Int.ofNat 0) 0 i e) (fun (i e : Nat) => cA (fun (x : Nat) => Int.ofNat 0) 0 i e) (fun (i e : Nat) => cB (fun (x : Nat) => Int.ofNat 0) 0 i e) (fun (e : Nat) => uP (fun (x : Nat) => Int.ofNat 0) 0 e) (fun (e : Nat) => uL (fun (x : Nat) => Int.ofNat 0) 0 e) fun (e : Nat) => uD (fun (x : Nat) => Int.ofNat 0) 0 e) + x_2.w * Int.ofNat 5 + Int.ofNat 0)
    (V.any Int (fun (r : Int) => r = lT (Cf.mk (Int.ofNat 1) (Int.ofNat 3) (Int.ofNat 1) (Int.ofNat 9) (Int.ofNat 8) (Int.ofNat 1) (Int.ofNat 1) (Int.ofNat 0) (Int.ofNat 1) 1 x_1.fst 0 x_1.snd.fst (fun (e : Nat) => 0) x_1.snd.snd (fun (i e : Nat) => cO (fun (x : Nat) => Int.ofNat 0) 0 i e) (fun (i e : Nat) => cA (fun (x : Nat) => Int.ofNat 0) 0 i e) (fun (i e : Nat) => cB (fun (x : Nat) => Int.ofNat 0) 0 i e) (fun (e : Nat) => uP (fun (x : Nat) => Int.ofNat 0) 0 e) (fun (e : Nat) => uL (fun (x : Nat) => Int.ofNat 0) 0 e) fun (e : Nat) => uD (fun (x : Nat) => Int.ofNat 0) 0 e) + x_2.w * Int.ofNat 5 + Int.ofNat 0) fun (x_5 : Int) => nN [qE x_5, qE x.fst.r.m.ct, (1, .le 1 1), (1, .le2 83 83 83 83), (1, .pf (∀ (i e : Nat), i = 0 ∧ e < 83 → x.fst.r.m.g e = x.fst.r.m.g e) (by intros; rfl)), qX (x.fst.r.m.val 83 x_5)]
    (V.any Int (fun (v : Int) => v = x.fst.r.m.val 83 x_5) fun (x : Int) => V.need ((x == Int.ofNat 2) = true) V.ok)))))))
    (V.bad 420))
    (V.bad 420)))
    (V.bad 420))
    (V.bad 420)))))))))))))))))))))))))))))))) := by kernel_rfl


end Go.Proofs.Ytomaagmleafjeaa.Md

/- TakeFinds: the conditions hold; the walk. -/
set_option linter.unusedVariables false
set_option linter.unusedSimpArgs false
set_option maxRecDepth 100000
namespace Go.Proofs.Ytomaagmleafjeaa.Md
open Go Go.RowKit Sx Cn Dc Ck Vc
def okF (ls : Nat → Nat) (S : Nat → Nat → Int) (sta : Nat → Int) (x : XF) : Prop := (∀ j, j < x.n → x.a j = pk ls S j ∧ sta (pk ls S j).toNat ≠ 1) ∧ x.n ≤ x.cp ∧
  ((x.w = -1 ∧ x.v = -1 ∧ x.q = 0 ∧ x.n ≤ tot ls) ∨ (x.n < tot ls ∧ x.w = pk ls S x.n ∧ sta (pk ls S x.n).toNat = 1 ∧ ∃ v : Nat, v < 3 ∧ x.v = v ∧ x.q = cut ls (x.n + 1) v))
def abv (ls : Nat → Nat) (l : Int) : Nat := (if l < 2 then ls 2 else 0) + (if l < 1 then ls 1 else 0) + (if l < 0 then ls 0 else 0)
def okF1 (ls : Nat → Nat) (S : Nat → Nat → Int) (sta : Nat → Int) (x : XF) : Prop := okF ls S sta x ∧ -1 ≤ x.i ∧ x.i ≤ 2 ∧ (x.w = -1 → x.n = abv ls x.i)
def okF2 (ls : Nat → Nat) (S : Nat → Nat → Int) (sta : Nat → Int) (l : Int) (x : XF) : Prop := okF ls S sta x ∧ -1 ≤ x.i ∧ x.i < ls l.toNat ∧ (x.w = -1 → x.n + (x.i + 1).toNat = abv ls (l - 1))
/-- The deques of the law's configuration. -/
theorem ent24 {c : Cf} {m : Mm} {bd : Int} {ls : Nat → Nat} {S : Nat → Nat → Int} {sta : Nat → Int} {v : Nat} (hc : c.W = 1 ∧ c.C = 1 ∧ c.H = 1 ∧ c.D = 8) (h : TI bd m ls S sta) (hv : v < 3) :
    entN c (fun e => m.g e) v = ls v ∧ ls v ≤ 8 ∧ ∀ i, i < ls v → entE c (fun e => m.g e) v i = S v i := by
  obtain ⟨h1, h2, h3, h4⟩ := hc
  have eQ : entQ c v = Tq yT v := by
    unfold entQ lQ Tq
    rw [h1, h2, h3, h4]
    rfl
  have hl := h.ws.len v hv
  have hwt := h.ws.wf.t v hv
  have hD : yT.D = 8 := rfl
  have hT : Tq yT v = 8 + v * 10 := rfl
  refine ⟨?_, by omega, fun i hi => ?_⟩
  · unfold entN
    dsimp only
    rw [eQ, sz_eq (by omega)]
    omega
  · have hval := h.ws.val v i hv hi
    have hrng := h.ws.rng v i hv hi
    unfold entE
    dsimp only
    rw [eQ, h4, wu64 (by omega), ringC_eq (by omega) (by omega) (by omega)]
    rw [hD] at hval
    rw [hval, w64 (by omega)]
def cE (W C H D : Int) : Cf := ⟨W, 0, C, 0, D, H, 0, 0, 0, 0, 0, 0, 0, fun _ => 0, fun _ => 0, fun _ _ => 0, fun _ _ => 0, fun _ _ => 0, fun _ => 0, fun _ => 0, fun _ => 0⟩
section
variable {W L C T D H B A P : Int} {nP rc nU cu : Nat} {lenP FC : Nat → Nat} {iO iA iB : Nat → Nat → Int} {uP uL uD : Nat → Int} {g : Nat → Int} {l : Int} {e : Nat}
theorem entN_c : entN ⟨W, L, C, T, D, H, B, A, P, nP, rc, nU, cu, lenP, FC, iO, iA, iB, uP, uL, uD⟩ g l = entN (cE W C H D) g l := rfl
theorem entE_c : entE ⟨W, L, C, T, D, H, B, A, P, nP, rc, nU, cu, lenP, FC, iO, iA, iB, uP, uL, uD⟩ g l e = entE (cE W C H D) g l e := rfl
end
theorem abv_s {L : Nat → Nat} {l : Nat} (h : l < 3) : abv L ((l : Int) - 1) = abv L l + L l := by
  unfold abv
  match l, h with
  | 0, _ => simp
  | 1, _ => simp
  | 2, _ => simp
theorem pk_at {L : Nat → Nat} {S : Nat → Nat → Int} {l i p : Nat} (h : l < 3) (hi : i < L l) (hp : p + (i + 1) = abv L l + L l) : pk L S p = S l i ∧ p < tot L ∧ cut L (p + 1) l = i := by
  unfold abv at hp
  unfold pk tot cut
  match l, h with
  | 0, _ =>
    simp at hp
    refine ⟨?_, by omega, by simp; omega⟩
    rw [if_neg (by omega), if_neg (by omega), show L 0 - 1 - (p - (L 2 + L 1)) = i by omega]
  | 1, _ =>
    simp at hp
    refine ⟨?_, by omega, by simp; omega⟩
    rw [if_neg (by omega), if_pos (by omega), show L 1 - 1 - (p - L 2) = i by omega]
  | 2, _ =>
    simp at hp
    refine ⟨?_, by omega, by simp; omega⟩
    rw [if_pos (by omega), show L 2 - 1 - p = i by omega]
theorem tot_lsE {g : Nat → Int} : ∀ {i : Nat}, tot (lsE g i).1 ≤ i
  | 0 => Nat.le_refl _
  | i + 1 => by
    have h := @tot_lsE g i
    show tot (if (lsE g i).1 (elv g i) = 8 then lsE g i else _).1 ≤ i + 1
    split
    · omega
    · unfold tot at h ⊢
      dsimp only
      by_cases c0 : 0 = elv g i
      · rw [← c0]; simp; omega
      · by_cases c1 : 1 = elv g i
        · rw [← c1]; simp; omega
        · by_cases c2 : 2 = elv g i
          · rw [← c2]; simp; omega
          · rw [if_neg c0, if_neg c1, if_neg c2]; omega
/-- What the law has found and what Take has done are the same. -/
theorem tf_same {bd : Int} {L : Nat → Nat} {S : Nat → Nat → Int} {sta : Nat → Int} {m : Mm} {R : Rt} {x : XF} (hla : TI bd m L S sta) (hF : okF L S sta x) (hT : x.w = -1 → x.n = tot L) (hR : TaRes bd L S sta e0 R) :
    (∀ i, i < x.n → R.r.l.ev i = (15, 0, x.a i, 0, 0)) ∧ ((x.w = -1 ∧ R.r.c = 2 ∧ R.r.l.n = x.n) ∨ (R.r.c = 1 ∧ R.r.v = x.w ∧ R.r.l.n = x.n + 1 ∧ (0 ≤ x.w ∧ x.w < 9) ∧ ∃ v : Nat, v < 3 ∧ x.v = v ∧ x.q = cut L (x.n + 1) v ∧ TI bd R.r.m (cut L (x.n + 1)) S (fun t => if t = x.w.toNat then 2 else sta t))) := by
  obtain ⟨F1, F2, F3⟩ := hF
  obtain ⟨-, r3⟩ := hR
  rcases F3 with ⟨w1, -, -, w4⟩ | ⟨w1, w2, w3, v, hv, w4, w5⟩
  · have hn := hT w1
    rcases r3 with ⟨q1, q2, q3, q4, -, -⟩ | ⟨q1, j, q2, q3, q4, -⟩
    · refine ⟨fun i hi => ?_, .inl ⟨w1, q1, ?_⟩⟩
      · have := q4 i (by omega)
        rw [show e0.n + i = i from Nat.zero_add i] at this
        rw [this, (F1 i hi).1]
      · rw [q3, hn]
        exact Nat.zero_add _
    · exact absurd q4 (F1 j (by omega)).2
  · rcases r3 with ⟨q1, q2, q3, q4, -, -⟩ | ⟨q1, j, q2, q3, q4, q5, q6, q7, q8⟩
    · exact absurd w3 (q2 _ w1)
    · have hj : j = x.n := by
        rcases Nat.lt_trichotomy j x.n with c | c | c
        · exact absurd q4 (F1 j c).2
        · exact c
        · exact absurd w3 (q3 _ c)
      subst hj
      have hr := pk_rng hla q2
      rw [← w2] at hr q5 q8
      refine ⟨fun i hi => ?_, .inr ⟨q1, q5, ?_, hr, v, hv, w4, w5, q8⟩⟩
      · have := q7 i hi
        rw [show e0.n + i = i from Nat.zero_add i] at this
        rw [this, (F1 i hi).1]
      · rw [q6]
        show 0 + x.n + 1 = _
        omega
set_option maxHeartbeats 16000000 in
theorem vhTf {g s : Nat → Int} {lg cg ls cs : Nat} (hg : ∀ i, i < lg → 0 ≤ g i ∧ g i ≤ 255) : VHolds (verTf g s lg cg ls cs (okF1 (lsE g (min lg 16)).1 (lsE g (min lg 16)).2 (sta0 s (min ls 9))) (okF2 (lsE g (min lg 16)).1 (lsE g (min lg 16)).2 (sta0 s (min ls 9))) fun _ => True) := by
  constructor
  rw [verTf_eq]
  ((repeat' first | with_reducible refine nN_h rfl ?_ | with_reducible refine V.brT ?_ | with_reducible refine V.brF ?_ | with_reducible refine V.needI ?_ ?_) <;> (try first | with_reducible exact V.okI | exact rfl | exact ⟨Nat.le_refl _, rfl⟩ | exact Nat.le_refl _ | assumption | omega | trivial | decide | (intros; rfl) | (intros; trivial)))
  · exact ⟨⟨9, _⟩, Nat.le_refl _, rfl⟩
  refine V.anyI fun x hx => ?_
  obtain ⟨rc, m⟩ := x
  obtain ⟨hrc, hm⟩ := hx
  dsimp only at hrc hm ⊢
  have hla := (la_TI (s := s) (fun i hi => (hg i hi).1) (Nat.min_le_right ls 9) (i := min lg 16) (Nat.min_le_left _ _) (by omega)).1
  rw [← hm] at hla
  clear hm
  have hT16 : tot (lsE g (min lg 16)).1 ≤ 16 := Nat.le_trans tot_lsE (Nat.min_le_right _ _)
  generalize (lsE g (min lg 16)).1 = L at *
  generalize (lsE g (min lg 16)).2 = S at *
  generalize sta0 s (min ls 9) = sta at *
  ((repeat' first | with_reducible refine nN_h rfl ?_ | with_reducible refine V.brT ?_ | with_reducible refine V.brF ?_ | with_reducible refine V.needI ?_ ?_) <;> (try first | with_reducible exact V.okI | exact rfl | exact ⟨Nat.le_refl _, rfl⟩ | exact Nat.le_refl _ | assumption | omega | trivial | decide | (intros; rfl) | (intros; trivial)))
  all_goals try exact ⟨u8_0, by decide⟩
  all_goals try exact ⟨(1, 0, fun _ => 0), Nat.le_refl _⟩
  refine V.anyI fun x0 h0 => ?_
  ((repeat' first | with_reducible refine nN_h rfl ?_ | with_reducible refine V.brT ?_ | with_reducible refine V.brF ?_ | with_reducible refine V.needI ?_ ?_) <;> (try first | with_reducible exact V.okI | exact rfl | exact ⟨Nat.le_refl _, rfl⟩ | exact Nat.le_refl _ | assumption | omega | trivial | decide | (intros; rfl) | (intros; trivial)))
  · exact ⟨⟨fun j hj => absurd hj (Nat.not_lt_zero _), Nat.zero_le _, .inl ⟨rfl, rfl, rfl, Nat.zero_le _⟩⟩, by show (-1 : Int) ≤ 2; decide, by show (2 : Int) ≤ 2; decide, fun _ => rfl⟩
  refine V.anyI fun x hx => ?_
  obtain ⟨xi, xn, xc, xa, xw, xv, xq⟩ := x
  obtain ⟨hF, f4, f5, f6⟩ := hx
  dsimp only at f4 f5 f6 ⊢
  have hz : IntKind.i64.wrap (xi - Int.ofNat 1) = xi - 1 := w64 (by simp only [Int.ofNat_eq_natCast]; omega)
  simp only [hz]
  refine V.brI (fun hi => ?_) fun hi => ?_
  · have hi : 0 ≤ xi := of_decide_eq_true hi
    refine V.brI (fun hw => ?_) fun hw => ?_
    · have hw : xw < 0 := of_decide_eq_true hw
      have hw1 : xw = -1 := by
        rcases hF.2.2 with ⟨q, -⟩ | ⟨q1, q2, -⟩
        · exact q
        · have q3 := (pk_rng hla q1).1
          have q2 : xw = pk L S xn := q2
          have q3 : 0 ≤ pk L S xn := q3
          omega
      obtain ⟨l, rfl⟩ : ∃ l : Nat, xi = l := ⟨xi.toNat, by omega⟩
      have hl3 : l < 3 := by omega
      obtain ⟨n1, n2, n3⟩ := ent24 (c := cE (Int.ofNat 1) (Int.ofNat 1) (Int.ofNat 1) (Int.ofNat 8)) ⟨rfl, rfl, rfl, rfl⟩ hla hl3
      have n1 : entN (cE (Int.ofNat 1) (Int.ofNat 1) (Int.ofNat 1) (Int.ofNat 8)) m.g l = (L l : Int) := n1
      simp only [entN_c, entE_c, n1, Int.toNat_natCast]
      have hs := abv_s (L := L) hl3
      have hL8 : ∀ u, u < 3 → L u ≤ 8 := fun u hu => (ent24 (c := cE 1 1 1 8) ⟨rfl, rfl, rfl, rfl⟩ hla hu).2.1
      have f6 := f6 hw1
      ((repeat' first | with_reducible refine nN_h rfl ?_ | with_reducible refine V.brT ?_ | with_reducible refine V.brF ?_ | with_reducible refine V.needI ?_ ?_) <;> (try first | with_reducible exact V.okI | exact rfl | exact ⟨Nat.le_refl _, rfl⟩ | exact Nat.le_refl _ | assumption | omega | trivial | decide | (intros; rfl) | (intros; trivial)))
      · exact ⟨83, Nat.le_refl _⟩
      refine V.anyI fun nc hnc => ?_
      ((repeat' first | with_reducible refine nN_h rfl ?_ | with_reducible refine V.brT ?_ | with_reducible refine V.brF ?_ | with_reducible refine V.needI ?_ ?_) <;> (try first | with_reducible exact V.okI | exact rfl | exact ⟨Nat.le_refl _, rfl⟩ | exact Nat.le_refl _ | assumption | omega | trivial | decide | (intros; rfl) | (intros; trivial)))
      all_goals try exact fun _ _ => ⟨Nat.zero_le _, Nat.zero_le _⟩
      all_goals try exact ⟨Nat.le_refl _, hnc⟩
      · refine ⟨?_, rfl, ⟨Int.natCast_nonneg _, by show (l : Int) < (3 : Int); omega⟩, hla.ws.wf.ok⟩
        refine err9 ?_ rfl rfl rfl
        unfold okN
        dsimp only
        simp only [Int.ofNat_eq_natCast]
        omega
      refine V.brI (fun hb => ?_) fun hb => ?_
      · have ez : IntKind.i64.wrap ((L l : Int) - Int.ofNat 1) = (L l : Int) - 1 := w64 (by simp only [Int.ofNat_eq_natCast]; omega)
        ((repeat' first | with_reducible refine nN_h rfl ?_ | with_reducible refine V.brT ?_ | with_reducible refine V.brF ?_ | with_reducible refine V.needI ?_ ?_) <;> (try first | with_reducible exact V.okI | exact rfl | exact ⟨Nat.le_refl _, rfl⟩ | exact Nat.le_refl _ | assumption | omega | trivial | decide | (intros; rfl) | (intros; trivial)))
        · exact ⟨_, Nat.le_refl _⟩
        refine V.anyI fun c hc => ?_
        ((repeat' first | with_reducible refine nN_h rfl ?_ | with_reducible refine V.brT ?_ | with_reducible refine V.brF ?_ | with_reducible refine V.needI ?_ ?_) <;> (try first | with_reducible exact V.okI | exact rfl | exact ⟨Nat.le_refl _, rfl⟩ | exact Nat.le_refl _ | assumption | omega | trivial | decide | (intros; rfl) | (intros; trivial)))
        · exact ⟨hF, by rw [ez]; show (-1 : Int) ≤ (L l : Int) - 1; omega, by rw [ez]; show (L l : Int) - 1 < (L l : Nat); omega, fun _ => by rw [ez]; show xn + ((L l : Int) - 1 + 1).toNat = _; omega⟩
        refine V.anyI fun z hz => ?_
        obtain ⟨zi, zn, zc, za, zw, zv, zq⟩ := z
        obtain ⟨g1, g2, g3, g4⟩ := hz
        dsimp only at g2 g4 ⊢
        have g3 : zi < (L l : Int) := g3
        have gz : IntKind.i64.wrap (zi - Int.ofNat 1) = zi - 1 := w64 (by simp only [Int.ofNat_eq_natCast]; omega)
        simp only [gz]
        have hout : (zi = -1 ∨ zw ≠ -1) → okF1 L S sta ⟨(l : Int) - 1, zn, zc, za, zw, zv, zq⟩ := fun hq => ⟨g1, by show (-1 : Int) ≤ (l : Int) - 1; omega, by show (l : Int) - 1 ≤ 2; omega, fun h1 => by
          have h1 : zw = -1 := h1
          have := g4 h1
          have : zi = -1 := hq.resolve_right fun q => q h1
          show zn = abv L ((l : Int) - 1)
          omega⟩
        refine V.brI (fun h => ?_) fun h => ?_
        · have h : 0 ≤ zi := of_decide_eq_true h
          refine V.brI (fun hw2 => ?_) fun hw2 => ?_
          · have hw2 : zw < 0 := of_decide_eq_true hw2
            have hw3 : zw = -1 := by
              rcases g1.2.2 with ⟨q, -⟩ | ⟨q1, q2, -⟩
              · exact q
              · have q3 := (pk_rng hla q1).1
                have q2 : zw = pk L S zn := q2
                have q3 : 0 ≤ pk L S zn := q3
                omega
            obtain ⟨i, rfl⟩ : ∃ i : Nat, zi = i := ⟨zi.toNat, by omega⟩
            have hiL : i < L l := by omega
            obtain ⟨p1, p2, p3⟩ := pk_at (S := S) (p := zn) hl3 hiL (by have := g4 hw3; omega)
            have hE : entE (cE (Int.ofNat 1) (Int.ofNat 1) (Int.ofNat 1) (Int.ofNat 8)) m.g l i = S l i := n3 i hiL
            have hen := hla.en l i hl3 hiL
            simp only [Int.toNat_natCast, Nat.zero_add, hE]
            ((repeat' first | with_reducible refine nN_h rfl ?_ | with_reducible refine V.brT ?_ | with_reducible refine V.brF ?_ | with_reducible refine V.needI ?_ ?_) <;> (try first | with_reducible exact V.okI | exact rfl | exact ⟨Nat.le_refl _, rfl⟩ | exact Nat.le_refl _ | assumption | omega | trivial | decide | (intros; rfl) | (intros; trivial)))
            all_goals try exact ⟨Int.natCast_nonneg _, by omega⟩
            all_goals try exact ⟨Nat.zero_lt_one, hiL⟩
            all_goals try exact fun _ _ => ⟨Nat.zero_le _, Nat.zero_le _⟩
            · exact ⟨⟨show (1 : Int) ≤ 1 ∧ (1 : Int) ≤ 16 by decide, show (1 : Int) ≤ 3 ∧ (3 : Int) ≤ 64 by decide, show (1 : Int) ≤ 1 ∧ (1 : Int) ≤ 8 by decide, show (1 : Int) ≤ 9 ∧ (9 : Int) ≤ 256 by decide, show (1 : Int) ≤ 8 ∧ (8 : Int) ≤ 64 by decide, show (1 : Int) ≤ 1 ∧ (1 : Int) ≤ 64 by decide⟩, ⟨hen.1, by show S l i < (9 : Int); exact hen.2⟩, by decide, by decide⟩
            refine V.anyI fun a ha => ?_
            have ha : a = 38 + S l i * 5 := by rw [ha]; show (38 : Int) + S l i * 5 + 0 = _; omega
            ((repeat' first | with_reducible refine nN_h rfl ?_ | with_reducible refine V.brT ?_ | with_reducible refine V.brF ?_ | with_reducible refine V.needI ?_ ?_) <;> (try first | with_reducible exact V.okI | exact rfl | exact ⟨Nat.le_refl _, rfl⟩ | exact Nat.le_refl _ | assumption | omega | trivial | decide | (intros; rfl) | (intros; trivial)))
            refine V.anyI fun u hu => ?_
            have hu : u = sta (S l i).toNat := by
              rw [hu, ha, Mm.val_eq (by omega) (by omega), show (38 + S l i * 5).toNat = 38 + (S l i).toNat * 5 by omega]
              exact hla.st _ (by omega)
            refine V.brI (fun h1 => ?_) fun h1 => ?_
            · have h1 : u = 1 := eq_of_beq h1
              ((repeat' first | with_reducible refine nN_h rfl ?_ | with_reducible refine V.brT ?_ | with_reducible refine V.brF ?_ | with_reducible refine V.needI ?_ ?_) <;> (try first | with_reducible exact V.okI | exact rfl | exact ⟨Nat.le_refl _, rfl⟩ | exact Nat.le_refl _ | assumption | omega | trivial | decide | (intros; rfl) | (intros; trivial)))
              all_goals try exact ⟨Int.natCast_nonneg _, by omega⟩
              all_goals try exact ⟨Nat.zero_lt_one, hiL⟩
              · refine ⟨⟨g1.1, g1.2.1, .inr ⟨p2, p1.symm, ?_, l, hl3, rfl, ?_⟩⟩, by show (-1 : Int) ≤ (i : Int) - 1; omega, by show (i : Int) - 1 < (L l : Int); omega, fun q => ?_⟩
                · show sta (pk L S zn).toNat = 1
                  rw [p1, ← hu, h1]
                · show (i : Int) = (cut L (zn + 1) l : Nat)
                  rw [p3]
                · have q : S l i = -1 := q
                  omega
              · show ((i : Int) - 1 + (1 : Int)).toNat < ((i : Int) + (1 : Int)).toNat
                omega
            · have h1 : u ≠ 1 := fun q => by rw [q] at h1; exact absurd h1 (by decide)
              have t0 := hL8 0 (by decide); have t1 := hL8 1 (by decide); have t2 := hL8 2 (by decide)
              have p4 : zn < 24 := by unfold tot at p2; omega
              ((repeat' first | with_reducible refine nN_h rfl ?_ | with_reducible refine V.brT ?_ | with_reducible refine V.brF ?_ | with_reducible refine V.needI ?_ ?_) <;> (try first | with_reducible exact V.okI | exact rfl | exact ⟨Nat.le_refl _, rfl⟩ | exact Nat.le_refl _ | assumption | omega | trivial | decide | (intros; rfl) | (intros; trivial)))
              · exact ⟨Nat.le_refl _, trivial⟩
              refine V.anyI fun c2 hc2 => ?_
              ((repeat' first | with_reducible refine nN_h rfl ?_ | with_reducible refine V.brT ?_ | with_reducible refine V.brF ?_ | with_reducible refine V.needI ?_ ?_) <;> (try first | with_reducible exact V.okI | exact rfl | exact ⟨Nat.le_refl _, rfl⟩ | exact Nat.le_refl _ | assumption | omega | trivial | decide | (intros; rfl) | (intros; trivial)))
              · refine ⟨⟨fun j hj => ?_, hc2, .inl ?_⟩, by show (-1 : Int) ≤ (i : Int) - 1; omega, by show (i : Int) - 1 < (L l : Int); omega, fun q => ?_⟩
                · have hj : j < zn + 1 := hj
                  show (if True ∧ j = zn then S l i else za j) = pk L S j ∧ _
                  by_cases cj : j = zn
                  · rw [if_pos ⟨trivial, cj⟩, cj]
                    exact ⟨p1.symm, by rw [p1, ← hu]; exact h1⟩
                  · rw [if_neg fun q => cj q.2]
                    exact g1.1 j (by show j < zn; omega)
                · rcases g1.2.2 with ⟨q1, q2, q3, q4⟩ | ⟨q1, q2, -⟩
                  · exact ⟨q1, q2, q3, by show zn + 1 ≤ tot L; omega⟩
                  · have q2 : zw = pk L S zn := q2
                    omega
                · have := g4 hw3
                  show zn + 1 + ((i : Int) - 1 + 1).toNat = _
                  omega
              · show ((i : Int) - 1 + (1 : Int)).toNat < ((i : Int) + (1 : Int)).toNat
                omega
          · have hw2 : ¬ zw < 0 := of_decide_eq_false hw2
            ((repeat' first | with_reducible refine nN_h rfl ?_ | with_reducible refine V.brT ?_ | with_reducible refine V.brF ?_ | with_reducible refine V.needI ?_ ?_) <;> (try first | with_reducible exact V.okI | exact rfl | exact ⟨Nat.le_refl _, rfl⟩ | exact Nat.le_refl _ | assumption | omega | trivial | decide | (intros; rfl) | (intros; trivial)))
            · exact hout (.inr (by omega))
            · show ((l : Int) - 1 + (1 : Int)).toNat < ((l : Int) + (1 : Int)).toNat
              omega
        · have h : ¬ 0 ≤ zi := of_decide_eq_false h
          ((repeat' first | with_reducible refine nN_h rfl ?_ | with_reducible refine V.brT ?_ | with_reducible refine V.brF ?_ | with_reducible refine V.needI ?_ ?_) <;> (try first | with_reducible exact V.okI | exact rfl | exact ⟨Nat.le_refl _, rfl⟩ | exact Nat.le_refl _ | assumption | omega | trivial | decide | (intros; rfl) | (intros; trivial)))
          · exact hout (.inl (by omega))
          · show ((l : Int) - 1 + (1 : Int)).toNat < ((l : Int) + (1 : Int)).toNat
            omega
      · have hL0 : L l = 0 := by
          by_cases c : L l = 0
          · exact c
          · exact absurd ⟨by show (1 : Int) ≤ (L l : Int); omega, by show (L l : Int) ≤ (8 : Int); omega⟩ (of_decide_eq_false hb)
        ((repeat' first | with_reducible refine nN_h rfl ?_ | with_reducible refine V.brT ?_ | with_reducible refine V.brF ?_ | with_reducible refine V.needI ?_ ?_) <;> (try first | with_reducible exact V.okI | exact rfl | exact ⟨Nat.le_refl _, rfl⟩ | exact Nat.le_refl _ | assumption | omega | trivial | decide | (intros; rfl) | (intros; trivial)))
        · exact ⟨hF, by show (-1 : Int) ≤ -1; decide, by show (-1 : Int) < (L l : Nat); omega, fun _ => by show xn + 0 = _; omega⟩
        refine V.anyI fun z hz => ?_
        obtain ⟨zi, zn, zc, za, zw, zv, zq⟩ := z
        obtain ⟨g1, g2, g3, g4⟩ := hz
        dsimp only at g2 g4 ⊢
        have g3 : zi < (L l : Int) := g3
        refine V.brI (fun h => ?_) fun h => ?_
        · have h : 0 ≤ zi := of_decide_eq_true h
          omega
        ((repeat' first | with_reducible refine nN_h rfl ?_ | with_reducible refine V.brT ?_ | with_reducible refine V.brF ?_ | with_reducible refine V.needI ?_ ?_) <;> (try first | with_reducible exact V.okI | exact rfl | exact ⟨Nat.le_refl _, rfl⟩ | exact Nat.le_refl _ | assumption | omega | trivial | decide | (intros; rfl) | (intros; trivial)))
        · exact ⟨g1, by show (-1 : Int) ≤ (l : Int) - 1; omega, by show (l : Int) - 1 ≤ 2; omega, fun h1 => by
            have := g4 h1
            show zn = abv L ((l : Int) - 1)
            omega⟩
        · show ((l : Int) - 1 + (1 : Int)).toNat < ((l : Int) + (1 : Int)).toNat
          omega
    · have hw : ¬ xw < 0 := of_decide_eq_false hw
      have hT : xw = -1 → xn = tot L := fun q => by omega
      obtain ⟨R, r1, r2⟩ := ta_main (tot L) (k := 0) (F := 600) (l := e0) (st := fun _ => false) rfl hla (by omega)
      have hR : taR yT 83 0 9 600 m e0 (fun _ => false) = some R := r1
      obtain ⟨hev, hres⟩ := tf_same hla hF hT r2
      have hev : ∀ i, i < xn → R.r.l.ev i = (15, 0, xa i, 0, 0) := hev
      dsimp only at hres
      ((repeat' first | with_reducible refine nN_h rfl ?_ | with_reducible refine V.brT ?_ | with_reducible refine V.brF ?_ | with_reducible refine V.needI ?_ ?_) <;> (try first | with_reducible exact V.okI | exact rfl | exact ⟨Nat.le_refl _, rfl⟩ | exact Nat.le_refl _ | assumption | omega | trivial | decide | (intros; rfl) | (intros; trivial)))
      · exact ⟨yT_ok, by decide, hla.ws.wf.ok, ⟨Nat.zero_le _, Nat.zero_le _⟩, R, hR⟩
      · exact ⟨(R, R.r.l.n), hR, Nat.le_refl _⟩
      refine V.anyI fun r hr => ?_
      obtain ⟨r, nc⟩ := r
      obtain ⟨hr, -⟩ := hr
      obtain rfl : R = r := Option.some.inj (hR.symm.trans hr)
      dsimp only
      have hln : xn ≤ R.r.l.n := by rcases hres with ⟨-, -, q⟩ | ⟨-, -, q, -⟩ <;> omega
      refine V.brI (fun h => (dlt (by omega) h).elim) fun _ => ?_
      ((repeat' first | with_reducible refine nN_h rfl ?_ | with_reducible refine V.brT ?_ | with_reducible refine V.brF ?_ | with_reducible refine V.needI ?_ ?_) <;> (try first | with_reducible exact V.okI | exact rfl | exact ⟨Nat.le_refl _, rfl⟩ | exact Nat.le_refl _ | assumption | omega | trivial | decide | (intros; rfl) | (intros; trivial)))
      refine V.anyI fun i _ => ?_
      have ei : IntKind.i64.wrap ((i : Int) + Int.ofNat 1) = ((i + 1 : Nat) : Int) ∨ ¬ i < xn := by
        by_cases c : i < xn
        · exact .inl (wnat (by have := hF.2.2; have q : xn ≤ 16 := (by rcases this with ⟨-, -, -, q⟩ | ⟨q, -⟩ <;> (have q : xn ≤ tot L := Nat.le_of_lt_succ (Nat.lt_succ_of_le (by first | exact q | exact Nat.le_of_lt q)); omega)); omega))
        · exact .inr c
      refine V.brI (fun h => ?_) fun _ => ?_
      · have h : i < xn := by have := of_decide_eq_true h; omega
        have ei := ei.resolve_right (fun q => q h)
        have he := hev i h
        unfold El.ev at he
        simp only [Prod.mk.injEq] at he
        obtain ⟨e1, e2, e3, e4, e5⟩ := he
        simp only [ei, Int.toNat_natCast, Nat.zero_add, e1, e2, e3, e4, e5]
        ((repeat' first | with_reducible refine nN_h rfl ?_ | with_reducible refine V.brT ?_ | with_reducible refine V.brF ?_ | with_reducible refine V.needI ?_ ?_) <;> (try first | with_reducible exact V.okI | exact rfl | exact ⟨Nat.le_refl _, rfl⟩ | exact Nat.le_refl _ | assumption | omega | trivial | decide | (intros; rfl) | (intros; trivial)))
        all_goals try exact ⟨Int.natCast_nonneg _, by omega⟩
        all_goals try exact ⟨Nat.zero_lt_one, by omega⟩
        refine V.brI (fun h => ?_) fun _ => ?_
        · simp at h
        ((repeat' first | with_reducible refine nN_h rfl ?_ | with_reducible refine V.brT ?_ | with_reducible refine V.brF ?_ | with_reducible refine V.needI ?_ ?_) <;> (try first | with_reducible exact V.okI | exact rfl | exact ⟨Nat.le_refl _, rfl⟩ | exact Nat.le_refl _ | assumption | omega | trivial | decide | (intros; rfl) | (intros; trivial)))
      rcases hres with ⟨w1, q1, q2⟩ | ⟨q1, q2, q3, q4, v, hv, rfl, rfl, q7⟩
      · refine V.brI (fun _ => ?_) fun h => (of_decide_eq_false h (by show xw < (0 : Int); omega)).elim
        rw [q1, q2]
        refine V.brTo rfl ?_
        ((repeat' first | with_reducible refine nN_h rfl ?_ | with_reducible refine V.brT ?_ | with_reducible refine V.brF ?_ | with_reducible refine V.needI ?_ ?_) <;> (try first | with_reducible exact V.okI | exact rfl | exact ⟨Nat.le_refl _, rfl⟩ | exact Nat.le_refl _ | assumption | omega | trivial | decide | (intros; rfl) | (intros; trivial)))
        all_goals simp
      · refine V.brI (fun h => ?_) fun _ => ?_
        · have : xw < (0 : Int) := of_decide_eq_true h
          omega
        obtain ⟨n1, n2, -⟩ := ent24 (c := cE (Int.ofNat 1) (Int.ofNat 1) (Int.ofNat 1) (Int.ofNat 8)) ⟨rfl, rfl, rfl, rfl⟩ q7 hv
        have n1 : entN (cE (Int.ofNat 1) (Int.ofNat 1) (Int.ofNat 1) (Int.ofNat 8)) R.r.m.g v = (cut L (xn + 1) v : Int) := n1
        have en : IntKind.i64.wrap ((xn : Int) + Int.ofNat 1) = ((xn + 1 : Nat) : Int) := wnat (by rcases hF.2.2 with ⟨q, -⟩ | ⟨q, -⟩ <;> (first | (have q : xw = -1 := q; omega) | (have q : xn < tot L := q; omega)))
        simp only [entN_c, n1, Int.toNat_natCast, q1, q2, q3, en]
        ((repeat' first | with_reducible refine nN_h rfl ?_ | with_reducible refine V.brT ?_ | with_reducible refine V.brF ?_ | with_reducible refine V.needI ?_ ?_) <;> (try first | with_reducible exact V.okI | exact rfl | exact ⟨Nat.le_refl _, rfl⟩ | exact Nat.le_refl _ | assumption | omega | trivial | decide | (intros; rfl) | (intros; trivial)))
        all_goals try exact ⟨83, Nat.le_refl _⟩
        refine V.anyI fun nc2 hnc2 => ?_
        ((repeat' first | with_reducible refine nN_h rfl ?_ | with_reducible refine V.brT ?_ | with_reducible refine V.brF ?_ | with_reducible refine V.needI ?_ ?_) <;> (try first | with_reducible exact V.okI | exact rfl | exact ⟨Nat.le_refl _, rfl⟩ | exact Nat.le_refl _ | assumption | omega | trivial | decide | (intros; rfl) | (intros; trivial)))
        all_goals try exact fun _ _ => ⟨Nat.zero_le _, Nat.zero_le _⟩
        all_goals try exact ⟨Nat.le_refl _, hnc2⟩
        all_goals try exact ⟨Nat.le_refl _, h0⟩
        all_goals try exact ⟨Nat.zero_le _, Nat.zero_le _⟩
        · refine ⟨?_, rfl, ⟨Int.natCast_nonneg _, by show (v : Int) < (3 : Int); omega⟩, q7.ws.wf.ok⟩
          refine err9 ?_ rfl rfl rfl
          unfold okN
          dsimp only
          simp only [Int.ofNat_eq_natCast]
          omega
        refine V.brI (fun hb => ?_) fun hb => ?_
        · ((repeat' first | with_reducible refine nN_h rfl ?_ | with_reducible refine V.brT ?_ | with_reducible refine V.brF ?_ | with_reducible refine V.needI ?_ ?_) <;> (try first | with_reducible exact V.okI | exact rfl | exact ⟨Nat.le_refl _, rfl⟩ | exact Nat.le_refl _ | assumption | omega | trivial | decide | (intros; rfl) | (intros; trivial)))
          · exact ⟨_, Nat.le_refl _⟩
          refine V.anyI fun c hc => ?_
          refine V.brTo rfl (V.brTo (beq_self_eq_true _) ?_)
          ((repeat' first | with_reducible refine nN_h rfl ?_ | with_reducible refine V.brT ?_ | with_reducible refine V.brF ?_ | with_reducible refine V.needI ?_ ?_) <;> (try first | with_reducible exact V.okI | exact rfl | exact ⟨Nat.le_refl _, rfl⟩ | exact Nat.le_refl _ | assumption | omega | trivial | decide | (intros; rfl) | (intros; trivial)))
          refine V.brTo (beq_self_eq_true _) (V.brTo (beq_self_eq_true _) ?_)
          ((repeat' first | with_reducible refine nN_h rfl ?_ | with_reducible refine V.brT ?_ | with_reducible refine V.brF ?_ | with_reducible refine V.needI ?_ ?_) <;> (try first | with_reducible exact V.okI | exact rfl | exact ⟨Nat.le_refl _, rfl⟩ | exact Nat.le_refl _ | assumption | omega | trivial | decide | (intros; rfl) | (intros; trivial)))
          all_goals try exact fun _ _ => ⟨Nat.zero_le _, Nat.zero_le _⟩
          · exact ⟨⟨show (1 : Int) ≤ 1 ∧ (1 : Int) ≤ 16 by decide, show (1 : Int) ≤ 3 ∧ (3 : Int) ≤ 64 by decide, show (1 : Int) ≤ 1 ∧ (1 : Int) ≤ 8 by decide, show (1 : Int) ≤ 9 ∧ (9 : Int) ≤ 256 by decide, show (1 : Int) ≤ 8 ∧ (8 : Int) ≤ 64 by decide, show (1 : Int) ≤ 1 ∧ (1 : Int) ≤ 64 by decide⟩, ⟨q4.1, by show xw < (9 : Int); exact q4.2⟩, by decide, by decide⟩
          · exact ⟨_, rfl⟩
          refine V.anyI fun a ha => ?_
          have ha : a = 38 + xw * 5 := by rw [ha]; show (38 : Int) + xw * 5 + 0 = _; omega
          ((repeat' first | with_reducible refine nN_h rfl ?_ | with_reducible refine V.brT ?_ | with_reducible refine V.brF ?_ | with_reducible refine V.needI ?_ ?_) <;> (try first | with_reducible exact V.okI | exact rfl | exact ⟨Nat.le_refl _, rfl⟩ | exact Nat.le_refl _ | assumption | omega | trivial | decide | (intros; rfl) | (intros; trivial)))
          refine V.anyI fun u hu => ?_
          have hu : u = 2 := by
            rw [hu, ha, Mm.val_eq (by omega) (by omega), show (38 + xw * 5).toNat = 38 + xw.toNat * 5 by omega, q7.st _ (by omega)]
            exact if_pos rfl
          rw [hu]
          ((repeat' first | with_reducible refine nN_h rfl ?_ | with_reducible refine V.brT ?_ | with_reducible refine V.brF ?_ | with_reducible refine V.needI ?_ ?_) <;> (try first | with_reducible exact V.okI | exact rfl | exact ⟨Nat.le_refl _, rfl⟩ | exact Nat.le_refl _ | assumption | omega | trivial | decide | (intros; rfl) | (intros; trivial)))
        · have hz : cut L (xn + 1) v = 0 := by
            by_cases c : cut L (xn + 1) v = 0
            · exact c
            · exact absurd ⟨by show (1 : Int) ≤ (cut L (xn + 1) v : Int); omega, by show (cut L (xn + 1) v : Int) ≤ (8 : Int); omega⟩ (of_decide_eq_false hb)
          rw [hz]
          refine V.brTo rfl (V.brTo (beq_self_eq_true _) ?_)
          ((repeat' first | with_reducible refine nN_h rfl ?_ | with_reducible refine V.brT ?_ | with_reducible refine V.brF ?_ | with_reducible refine V.needI ?_ ?_) <;> (try first | with_reducible exact V.okI | exact rfl | exact ⟨Nat.le_refl _, rfl⟩ | exact Nat.le_refl _ | assumption | omega | trivial | decide | (intros; rfl) | (intros; trivial)))
          refine V.brTo (beq_self_eq_true _) (V.brTo rfl ?_)
          ((repeat' first | with_reducible refine nN_h rfl ?_ | with_reducible refine V.brT ?_ | with_reducible refine V.brF ?_ | with_reducible refine V.needI ?_ ?_) <;> (try first | with_reducible exact V.okI | exact rfl | exact ⟨Nat.le_refl _, rfl⟩ | exact Nat.le_refl _ | assumption | omega | trivial | decide | (intros; rfl) | (intros; trivial)))
          all_goals try exact fun _ _ => ⟨Nat.zero_le _, Nat.zero_le _⟩
          · exact ⟨⟨show (1 : Int) ≤ 1 ∧ (1 : Int) ≤ 16 by decide, show (1 : Int) ≤ 3 ∧ (3 : Int) ≤ 64 by decide, show (1 : Int) ≤ 1 ∧ (1 : Int) ≤ 8 by decide, show (1 : Int) ≤ 9 ∧ (9 : Int) ≤ 256 by decide, show (1 : Int) ≤ 8 ∧ (8 : Int) ≤ 64 by decide, show (1 : Int) ≤ 1 ∧ (1 : Int) ≤ 64 by decide⟩, ⟨q4.1, by show xw < (9 : Int); exact q4.2⟩, by decide, by decide⟩
          · exact ⟨_, rfl⟩
          refine V.anyI fun a ha => ?_
          have ha : a = 38 + xw * 5 := by rw [ha]; show (38 : Int) + xw * 5 + 0 = _; omega
          ((repeat' first | with_reducible refine nN_h rfl ?_ | with_reducible refine V.brT ?_ | with_reducible refine V.brF ?_ | with_reducible refine V.needI ?_ ?_) <;> (try first | with_reducible exact V.okI | exact rfl | exact ⟨Nat.le_refl _, rfl⟩ | exact Nat.le_refl _ | assumption | omega | trivial | decide | (intros; rfl) | (intros; trivial)))
          refine V.anyI fun u hu => ?_
          have hu : u = 2 := by
            rw [hu, ha, Mm.val_eq (by omega) (by omega), show (38 + xw * 5).toNat = 38 + xw.toNat * 5 by omega, q7.st _ (by omega)]
            exact if_pos rfl
          rw [hu]
          ((repeat' first | with_reducible refine nN_h rfl ?_ | with_reducible refine V.brT ?_ | with_reducible refine V.brF ?_ | with_reducible refine V.needI ?_ ?_) <;> (try first | with_reducible exact V.okI | exact rfl | exact ⟨Nat.le_refl _, rfl⟩ | exact Nat.le_refl _ | assumption | omega | trivial | decide | (intros; rfl) | (intros; trivial)))
  · have hT : xw = -1 → xn = tot L := fun q => by
      have hi : ¬ 0 ≤ xi := of_decide_eq_false hi
      rw [f6 q, show xi = -1 by omega]
      unfold abv tot
      rfl
    obtain ⟨R, r1, r2⟩ := ta_main (tot L) (k := 0) (F := 600) (l := e0) (st := fun _ => false) rfl hla (by omega)
    have hR : taR yT 83 0 9 600 m e0 (fun _ => false) = some R := r1
    obtain ⟨hev, hres⟩ := tf_same hla hF hT r2
    have hev : ∀ i, i < xn → R.r.l.ev i = (15, 0, xa i, 0, 0) := hev
    dsimp only at hres
    ((repeat' first | with_reducible refine nN_h rfl ?_ | with_reducible refine V.brT ?_ | with_reducible refine V.brF ?_ | with_reducible refine V.needI ?_ ?_) <;> (try first | with_reducible exact V.okI | exact rfl | exact ⟨Nat.le_refl _, rfl⟩ | exact Nat.le_refl _ | assumption | omega | trivial | decide | (intros; rfl) | (intros; trivial)))
    · exact ⟨yT_ok, by decide, hla.ws.wf.ok, ⟨Nat.zero_le _, Nat.zero_le _⟩, R, hR⟩
    · exact ⟨(R, R.r.l.n), hR, Nat.le_refl _⟩
    refine V.anyI fun r hr => ?_
    obtain ⟨r, nc⟩ := r
    obtain ⟨hr, -⟩ := hr
    obtain rfl : R = r := Option.some.inj (hR.symm.trans hr)
    dsimp only
    have hln : xn ≤ R.r.l.n := by rcases hres with ⟨-, -, q⟩ | ⟨-, -, q, -⟩ <;> omega
    refine V.brI (fun h => (dlt (by omega) h).elim) fun _ => ?_
    ((repeat' first | with_reducible refine nN_h rfl ?_ | with_reducible refine V.brT ?_ | with_reducible refine V.brF ?_ | with_reducible refine V.needI ?_ ?_) <;> (try first | with_reducible exact V.okI | exact rfl | exact ⟨Nat.le_refl _, rfl⟩ | exact Nat.le_refl _ | assumption | omega | trivial | decide | (intros; rfl) | (intros; trivial)))
    refine V.anyI fun i _ => ?_
    have ei : IntKind.i64.wrap ((i : Int) + Int.ofNat 1) = ((i + 1 : Nat) : Int) ∨ ¬ i < xn := by
      by_cases c : i < xn
      · exact .inl (wnat (by have := hF.2.2; have q : xn ≤ 16 := (by rcases this with ⟨-, -, -, q⟩ | ⟨q, -⟩ <;> (have q : xn ≤ tot L := Nat.le_of_lt_succ (Nat.lt_succ_of_le (by first | exact q | exact Nat.le_of_lt q)); omega)); omega))
      · exact .inr c
    refine V.brI (fun h => ?_) fun _ => ?_
    · have h : i < xn := by have := of_decide_eq_true h; omega
      have ei := ei.resolve_right (fun q => q h)
      have he := hev i h
      unfold El.ev at he
      simp only [Prod.mk.injEq] at he
      obtain ⟨e1, e2, e3, e4, e5⟩ := he
      simp only [ei, Int.toNat_natCast, Nat.zero_add, e1, e2, e3, e4, e5]
      ((repeat' first | with_reducible refine nN_h rfl ?_ | with_reducible refine V.brT ?_ | with_reducible refine V.brF ?_ | with_reducible refine V.needI ?_ ?_) <;> (try first | with_reducible exact V.okI | exact rfl | exact ⟨Nat.le_refl _, rfl⟩ | exact Nat.le_refl _ | assumption | omega | trivial | decide | (intros; rfl) | (intros; trivial)))
      all_goals try exact ⟨Int.natCast_nonneg _, by omega⟩
      all_goals try exact ⟨Nat.zero_lt_one, by omega⟩
      refine V.brI (fun h => ?_) fun _ => ?_
      · simp at h
      ((repeat' first | with_reducible refine nN_h rfl ?_ | with_reducible refine V.brT ?_ | with_reducible refine V.brF ?_ | with_reducible refine V.needI ?_ ?_) <;> (try first | with_reducible exact V.okI | exact rfl | exact ⟨Nat.le_refl _, rfl⟩ | exact Nat.le_refl _ | assumption | omega | trivial | decide | (intros; rfl) | (intros; trivial)))
    rcases hres with ⟨w1, q1, q2⟩ | ⟨q1, q2, q3, q4, v, hv, rfl, rfl, q7⟩
    · refine V.brI (fun _ => ?_) fun h => (of_decide_eq_false h (by show xw < (0 : Int); omega)).elim
      rw [q1, q2]
      refine V.brTo rfl ?_
      ((repeat' first | with_reducible refine nN_h rfl ?_ | with_reducible refine V.brT ?_ | with_reducible refine V.brF ?_ | with_reducible refine V.needI ?_ ?_) <;> (try first | with_reducible exact V.okI | exact rfl | exact ⟨Nat.le_refl _, rfl⟩ | exact Nat.le_refl _ | assumption | omega | trivial | decide | (intros; rfl) | (intros; trivial)))
      all_goals simp
    · refine V.brI (fun h => ?_) fun _ => ?_
      · have : xw < (0 : Int) := of_decide_eq_true h
        omega
      obtain ⟨n1, n2, -⟩ := ent24 (c := cE (Int.ofNat 1) (Int.ofNat 1) (Int.ofNat 1) (Int.ofNat 8)) ⟨rfl, rfl, rfl, rfl⟩ q7 hv
      have n1 : entN (cE (Int.ofNat 1) (Int.ofNat 1) (Int.ofNat 1) (Int.ofNat 8)) R.r.m.g v = (cut L (xn + 1) v : Int) := n1
      have en : IntKind.i64.wrap ((xn : Int) + Int.ofNat 1) = ((xn + 1 : Nat) : Int) := wnat (by rcases hF.2.2 with ⟨q, -⟩ | ⟨q, -⟩ <;> (first | (have q : xw = -1 := q; omega) | (have q : xn < tot L := q; omega)))
      simp only [entN_c, n1, Int.toNat_natCast, q1, q2, q3, en]
      ((repeat' first | with_reducible refine nN_h rfl ?_ | with_reducible refine V.brT ?_ | with_reducible refine V.brF ?_ | with_reducible refine V.needI ?_ ?_) <;> (try first | with_reducible exact V.okI | exact rfl | exact ⟨Nat.le_refl _, rfl⟩ | exact Nat.le_refl _ | assumption | omega | trivial | decide | (intros; rfl) | (intros; trivial)))
      all_goals try exact ⟨83, Nat.le_refl _⟩
      refine V.anyI fun nc2 hnc2 => ?_
      ((repeat' first | with_reducible refine nN_h rfl ?_ | with_reducible refine V.brT ?_ | with_reducible refine V.brF ?_ | with_reducible refine V.needI ?_ ?_) <;> (try first | with_reducible exact V.okI | exact rfl | exact ⟨Nat.le_refl _, rfl⟩ | exact Nat.le_refl _ | assumption | omega | trivial | decide | (intros; rfl) | (intros; trivial)))
      all_goals try exact fun _ _ => ⟨Nat.zero_le _, Nat.zero_le _⟩
      all_goals try exact ⟨Nat.le_refl _, hnc2⟩
      all_goals try exact ⟨Nat.le_refl _, h0⟩
      all_goals try exact ⟨Nat.zero_le _, Nat.zero_le _⟩
      · refine ⟨?_, rfl, ⟨Int.natCast_nonneg _, by show (v : Int) < (3 : Int); omega⟩, q7.ws.wf.ok⟩
        refine err9 ?_ rfl rfl rfl
        unfold okN
        dsimp only
        simp only [Int.ofNat_eq_natCast]
        omega
      refine V.brI (fun hb => ?_) fun hb => ?_
      · ((repeat' first | with_reducible refine nN_h rfl ?_ | with_reducible refine V.brT ?_ | with_reducible refine V.brF ?_ | with_reducible refine V.needI ?_ ?_) <;> (try first | with_reducible exact V.okI | exact rfl | exact ⟨Nat.le_refl _, rfl⟩ | exact Nat.le_refl _ | assumption | omega | trivial | decide | (intros; rfl) | (intros; trivial)))
        · exact ⟨_, Nat.le_refl _⟩
        refine V.anyI fun c hc => ?_
        refine V.brTo rfl (V.brTo (beq_self_eq_true _) ?_)
        ((repeat' first | with_reducible refine nN_h rfl ?_ | with_reducible refine V.brT ?_ | with_reducible refine V.brF ?_ | with_reducible refine V.needI ?_ ?_) <;> (try first | with_reducible exact V.okI | exact rfl | exact ⟨Nat.le_refl _, rfl⟩ | exact Nat.le_refl _ | assumption | omega | trivial | decide | (intros; rfl) | (intros; trivial)))
        refine V.brTo (beq_self_eq_true _) (V.brTo (beq_self_eq_true _) ?_)
        ((repeat' first | with_reducible refine nN_h rfl ?_ | with_reducible refine V.brT ?_ | with_reducible refine V.brF ?_ | with_reducible refine V.needI ?_ ?_) <;> (try first | with_reducible exact V.okI | exact rfl | exact ⟨Nat.le_refl _, rfl⟩ | exact Nat.le_refl _ | assumption | omega | trivial | decide | (intros; rfl) | (intros; trivial)))
        all_goals try exact fun _ _ => ⟨Nat.zero_le _, Nat.zero_le _⟩
        · exact ⟨⟨show (1 : Int) ≤ 1 ∧ (1 : Int) ≤ 16 by decide, show (1 : Int) ≤ 3 ∧ (3 : Int) ≤ 64 by decide, show (1 : Int) ≤ 1 ∧ (1 : Int) ≤ 8 by decide, show (1 : Int) ≤ 9 ∧ (9 : Int) ≤ 256 by decide, show (1 : Int) ≤ 8 ∧ (8 : Int) ≤ 64 by decide, show (1 : Int) ≤ 1 ∧ (1 : Int) ≤ 64 by decide⟩, ⟨q4.1, by show xw < (9 : Int); exact q4.2⟩, by decide, by decide⟩
        · exact ⟨_, rfl⟩
        refine V.anyI fun a ha => ?_
        have ha : a = 38 + xw * 5 := by rw [ha]; show (38 : Int) + xw * 5 + 0 = _; omega
        ((repeat' first | with_reducible refine nN_h rfl ?_ | with_reducible refine V.brT ?_ | with_reducible refine V.brF ?_ | with_reducible refine V.needI ?_ ?_) <;> (try first | with_reducible exact V.okI | exact rfl | exact ⟨Nat.le_refl _, rfl⟩ | exact Nat.le_refl _ | assumption | omega | trivial | decide | (intros; rfl) | (intros; trivial)))
        refine V.anyI fun u hu => ?_
        have hu : u = 2 := by
          rw [hu, ha, Mm.val_eq (by omega) (by omega), show (38 + xw * 5).toNat = 38 + xw.toNat * 5 by omega, q7.st _ (by omega)]
          exact if_pos rfl
        rw [hu]
        ((repeat' first | with_reducible refine nN_h rfl ?_ | with_reducible refine V.brT ?_ | with_reducible refine V.brF ?_ | with_reducible refine V.needI ?_ ?_) <;> (try first | with_reducible exact V.okI | exact rfl | exact ⟨Nat.le_refl _, rfl⟩ | exact Nat.le_refl _ | assumption | omega | trivial | decide | (intros; rfl) | (intros; trivial)))
      · have hz : cut L (xn + 1) v = 0 := by
          by_cases c : cut L (xn + 1) v = 0
          · exact c
          · exact absurd ⟨by show (1 : Int) ≤ (cut L (xn + 1) v : Int); omega, by show (cut L (xn + 1) v : Int) ≤ (8 : Int); omega⟩ (of_decide_eq_false hb)
        rw [hz]
        refine V.brTo rfl (V.brTo (beq_self_eq_true _) ?_)
        ((repeat' first | with_reducible refine nN_h rfl ?_ | with_reducible refine V.brT ?_ | with_reducible refine V.brF ?_ | with_reducible refine V.needI ?_ ?_) <;> (try first | with_reducible exact V.okI | exact rfl | exact ⟨Nat.le_refl _, rfl⟩ | exact Nat.le_refl _ | assumption | omega | trivial | decide | (intros; rfl) | (intros; trivial)))
        refine V.brTo (beq_self_eq_true _) (V.brTo rfl ?_)
        ((repeat' first | with_reducible refine nN_h rfl ?_ | with_reducible refine V.brT ?_ | with_reducible refine V.brF ?_ | with_reducible refine V.needI ?_ ?_) <;> (try first | with_reducible exact V.okI | exact rfl | exact ⟨Nat.le_refl _, rfl⟩ | exact Nat.le_refl _ | assumption | omega | trivial | decide | (intros; rfl) | (intros; trivial)))
        all_goals try exact fun _ _ => ⟨Nat.zero_le _, Nat.zero_le _⟩
        · exact ⟨⟨show (1 : Int) ≤ 1 ∧ (1 : Int) ≤ 16 by decide, show (1 : Int) ≤ 3 ∧ (3 : Int) ≤ 64 by decide, show (1 : Int) ≤ 1 ∧ (1 : Int) ≤ 8 by decide, show (1 : Int) ≤ 9 ∧ (9 : Int) ≤ 256 by decide, show (1 : Int) ≤ 8 ∧ (8 : Int) ≤ 64 by decide, show (1 : Int) ≤ 1 ∧ (1 : Int) ≤ 64 by decide⟩, ⟨q4.1, by show xw < (9 : Int); exact q4.2⟩, by decide, by decide⟩
        · exact ⟨_, rfl⟩
        refine V.anyI fun a ha => ?_
        have ha : a = 38 + xw * 5 := by rw [ha]; show (38 : Int) + xw * 5 + 0 = _; omega
        ((repeat' first | with_reducible refine nN_h rfl ?_ | with_reducible refine V.brT ?_ | with_reducible refine V.brF ?_ | with_reducible refine V.needI ?_ ?_) <;> (try first | with_reducible exact V.okI | exact rfl | exact ⟨Nat.le_refl _, rfl⟩ | exact Nat.le_refl _ | assumption | omega | trivial | decide | (intros; rfl) | (intros; trivial)))
        refine V.anyI fun u hu => ?_
        have hu : u = 2 := by
          rw [hu, ha, Mm.val_eq (by omega) (by omega), show (38 + xw * 5).toNat = 38 + xw.toNat * 5 by omega, q7.st _ (by omega)]
          exact if_pos rfl
        rw [hu]
        ((repeat' first | with_reducible refine nN_h rfl ?_ | with_reducible refine V.brT ?_ | with_reducible refine V.brF ?_ | with_reducible refine V.needI ?_ ?_) <;> (try first | with_reducible exact V.okI | exact rfl | exact ⟨Nat.le_refl _, rfl⟩ | exact Nat.le_refl _ | assumption | omega | trivial | decide | (intros; rfl) | (intros; trivial)))
theorem wf8 {n : Int} (h : (Lit.int .u8 n).wf = true) : 0 ≤ n ∧ n ≤ 255 := by
  simp [Lit.wf, IntKind.min, IntKind.max, IntKind.bits, IntKind.signed] at h; omega
theorem walkTf (a : Option Addr) (len cap : Nat) (g : Nat → Int) (b : Option Addr) (pn pc : Nat) (p : Nat → Int) (W : World) (h : IsInts .u8 W a len cap g) (h' : IsInts .u8 W b pn pc p) :
    Calls P 23 #[.slice a len cap, .slice b pn pc] W fun e w' => e = .returned (.bool true) ∧ Below W.heap.size W w' := by
  refine calls_yesV (vs := [.slice a len cap, .slice b pn pc]) con24_ok (ρ := fun k i => if k = 0 ∧ i = 0 then addr0 a else if k = 1 ∧ i = 0 then addr0 b else none) (vhTf (g := g) (s := p) (lg := len) (cg := cap) (ls := pn) (cs := pc) fun e he => wf8 (h.fits e he)) (views_inv fun k b' hk => ?_) ⟨h.val (by simp) ⟨Nat.le_of_ble_eq_true rfl, trivial⟩, h'.val (by simp) ⟨Nat.le_of_ble_eq_true rfl, trivial⟩, trivial⟩
  rw [find_cons] at hk
  split at hk
  · rename_i e; subst e
    cases hk
    exact ⟨rfl, by decide, h.sat (by simp)⟩
  rw [find_cons] at hk
  split at hk
  · rename_i e; subst e
    cases hk
    exact ⟨rfl, by decide, h'.sat (by simp)⟩
  · cases hk
end Go.Proofs.Ytomaagmleafjeaa.Md
