/- An environment with entries: the conditions, printed by program. -/
import Derived.Test.YtomaagmleafjeaaMMdLaD
import Derived.Test.YtomaagmleafjeaaMW
import Derived.Test.YtomaagmleafjeaaMMdBr
set_option linter.unusedVariables false
set_option linter.unusedSimpArgs false
set_option maxRecDepth 100000
namespace Go.Proofs.Ytomaagmleafjeaa.Md
open Go Go.RowKit Sx Cn Dc Ck Vc

set_option maxHeartbeats 8000000 in
theorem verLa_eq (g s : Nat → Int) (lg cg ls cs : Nat) (I J : XI2 → Prop) (φ : XLa → Prop) : verLa g s lg cg ls cs I J φ =
  V.need ((U8 0 fun (x : Nat) => Int.ofNat 0) ∧ 0 ≤ 9)
    (V.need (∃ (x : Nat × Nat × (Nat → Nat)), 1 ≤ x.fst)
    (V.any (Nat × Nat × (Nat → Nat)) (fun (x : Nat × Nat × (Nat → Nat)) => 1 ≤ x.fst) fun (x : Nat × Nat × (Nat → Nat)) => nN [(1, .eqI 1 1), (1, .eqI 3 3), (1, .eqI 1 1), (1, .eqI 9 9), (1, .eqI 8 8), (2, .eqI 1 1), (1, .eqI 0 0), (1, .eqI 1 1), (1, .eq 1 1), qE x.fst, (1, .eq 0 0), qE x.snd.fst, (1, .le 1 1)]
    (V.need (1 ≤ 1 ∧ 1 ≤ x.fst)
    (nN [(1, .pf (∀ (i e : Nat), i = 0 ∧ e < 1 → e = e) (by intros; rfl)), (1, .pf (∀ (i e : Nat), i = 0 ∧ e < 1 → 0 = 0) (by intros; rfl)), (1, .pf (∀ (i e : Nat), i = 0 ∧ e < 1 → x.snd.snd e = x.snd.snd e) (by intros; rfl)), (1, .le 1 1)]
    (V.need (0 ≤ 0 ∧ 0 ≤ x.snd.fst)
    (nN [(1, .pf (∀ (i e : Nat), i = 0 ∧ e < 0 → uP (fun (x : Nat) => Int.ofNat 0) 0 e = uP (fun (x : Nat) => Int.ofNat 0) 0 e) (by intros; rfl)), (1, .pf (∀ (i e : Nat), i = 0 ∧ e < 0 → uL (fun (x : Nat) => Int.ofNat 0) 0 e = uL (fun (x : Nat) => Int.ofNat 0) 0 e) (by intros; rfl)), (1, .pf (∀ (i e : Nat), i = 0 ∧ e < 0 → uD (fun (x : Nat) => Int.ofNat 0) 0 e = uD (fun (x : Nat) => Int.ofNat 0) 0 e) (by intros; rfl))]
    (V.need (∀ (i : Nat), i < 1 → 0 ≤ gd 1 (fun (x : Nat) => 0) i ∧ 0 ≤ gd 1 x.snd.snd i)
    (nN [(1, .pf (∀ (i e : Nat), i < 1 ∧ e < 0 → cO (fun (x : Nat) => Int.ofNat 0) 0 i e = cO (fun (x : Nat) => Int.ofNat 0) 0 i e) (by intros; rfl)), (1, .pf (∀ (i e : Nat), i < 1 ∧ e < 0 → cA (fun (x : Nat) => Int.ofNat 0) 0 i e = cA (fun (x : Nat) => Int.ofNat 0) 0 i e) (by intros; rfl)), (1, .pf (∀ (i e : Nat), i < 1 ∧ e < 0 → cB (fun (x : Nat) => Int.ofNat 0) 0 i e = cB (fun (x : Nat) => Int.ofNat 0) 0 i e) (by intros; rfl))]
    (V.need (errE (Cf.mk (Int.ofNat 1) (Int.ofNat 3) (Int.ofNat 1) (Int.ofNat 9) (Int.ofNat 8) (Int.ofNat 1) (Int.ofNat 1) (Int.ofNat 0) (Int.ofNat 1) 1 x.fst 0 x.snd.fst (fun (e : Nat) => 0) x.snd.snd (fun (i e : Nat) => cO (fun (x : Nat) => Int.ofNat 0) 0 i e) (fun (i e : Nat) => cA (fun (x : Nat) => Int.ofNat 0) 0 i e) (fun (i e : Nat) => cB (fun (x : Nat) => Int.ofNat 0) 0 i e) (fun (e : Nat) => uP (fun (x : Nat) => Int.ofNat 0) 0 e) (fun (e : Nat) => uL (fun (x : Nat) => Int.ofNat 0) 0 e) fun (e : Nat) => uD (fun (x : Nat) => Int.ofNat 0) 0 e) = Int.ofNat 0)
    (V.need (∃ (x_1 : Cf × Nat), IsCl (Cf.mk (Int.ofNat 1) (Int.ofNat 3) (Int.ofNat 1) (Int.ofNat 9) (Int.ofNat 8) (Int.ofNat 1) (Int.ofNat 1) (Int.ofNat 0) (Int.ofNat 1) 1 x.fst 0 x.snd.fst (fun (e : Nat) => 0) x.snd.snd (fun (i e : Nat) => cO (fun (x : Nat) => Int.ofNat 0) 0 i e) (fun (i e : Nat) => cA (fun (x : Nat) => Int.ofNat 0) 0 i e) (fun (i e : Nat) => cB (fun (x : Nat) => Int.ofNat 0) 0 i e) (fun (e : Nat) => uP (fun (x : Nat) => Int.ofNat 0) 0 e) (fun (e : Nat) => uL (fun (x : Nat) => Int.ofNat 0) 0 e) fun (e : Nat) => uD (fun (x : Nat) => Int.ofNat 0) 0 e) x_1.fst ∧ (Int.ofNat 9).toNat ≤ x_1.snd)
    (V.any (Cf × Nat) (fun (x_1 : Cf × Nat) => IsCl (Cf.mk (Int.ofNat 1) (Int.ofNat 3) (Int.ofNat 1) (Int.ofNat 9) (Int.ofNat 8) (Int.ofNat 1) (Int.ofNat 1) (Int.ofNat 0) (Int.ofNat 1) 1 x.fst 0 x.snd.fst (fun (e : Nat) => 0) x.snd.snd (fun (i e : Nat) => cO (fun (x : Nat) => Int.ofNat 0) 0 i e) (fun (i e : Nat) => cA (fun (x : Nat) => Int.ofNat 0) 0 i e) (fun (i e : Nat) => cB (fun (x : Nat) => Int.ofNat 0) 0 i e) (fun (e : Nat) => uP (fun (x : Nat) => Int.ofNat 0) 0 e) (fun (e : Nat) => uL (fun (x : Nat) => Int.ofNat 0) 0 e) fun (e : Nat) => uD (fun (x : Nat) => Int.ofNat 0) 0 e) x_1.fst ∧ (Int.ofNat 9).toNat ≤ x_1.snd) fun (x_1 : Cf × Nat) => nN [(1, .pf (∃ (x_2 : Nat × Int), x_2 = (ncN (Cf.mk (Int.ofNat 1) (Int.ofNat 3) (Int.ofNat 1) (Int.ofNat 9) (Int.ofNat 8) (Int.ofNat 1) (Int.ofNat 1) (Int.ofNat 0) (Int.ofNat 1) 1 x.fst 0 x.snd.fst (fun (e : Nat) => 0) x.snd.snd (fun (i e : Nat) => cO (fun (x : Nat) => Int.ofNat 0) 0 i e) (fun (i e : Nat) => cA (fun (x : Nat) => Int.ofNat 0) 0 i e) (fun (i e : Nat) => cB (fun (x : Nat) => Int.ofNat 0) 0 i e) (fun (e : Nat) => uP (fun (x : Nat) => Int.ofNat 0) 0 e) (fun (e : Nat) => uL (fun (x : Nat) => Int.ofNat 0) 0 e) fun (e : Nat) => uD (fun (x : Nat) => Int.ofNat 0) 0 e), lT (Cf.mk (Int.ofNat 1) (Int.ofNat 3) (Int.ofNat 1) (Int.ofNat 9) (Int.ofNat 8) (Int.ofNat 1) (Int.ofNat 1) (Int.ofNat 0) (Int.ofNat 1) 1 x.fst 0 x.snd.fst (fun (e : Nat) => 0) x.snd.snd (fun (i e : Nat) => cO (fun (x : Nat) => Int.ofNat 0) 0 i e) (fun (i e : Nat) => cA (fun (x : Nat) => Int.ofNat 0) 0 i e) (fun (i e : Nat) => cB (fun (x : Nat) => Int.ofNat 0) 0 i e) (fun (e : Nat) => uP (fun (x : Nat) => Int.ofNat 0) 0 e) (fun (e : Nat) => uL (fun (x : Nat) => Int.ofNat 0) 0 e) fun (e : Nat) => uD (fun (x : Nat) => Int.ofNat 0) 0 e))) ⟨_, rfl⟩)]
    (V.any (Nat × Int) (fun (q : Nat × Int) => q = (ncN (Cf.mk (Int.ofNat 1) (Int.ofNat 3) (Int.ofNat 1) (Int.ofNat 9) (Int.ofNat 8) (Int.ofNat 1) (Int.ofNat 1) (Int.ofNat 0) (Int.ofNat 1) 1 x.fst 0 x.snd.fst (fun (e : Nat) => 0) x.snd.snd (fun (i e : Nat) => cO (fun (x : Nat) => Int.ofNat 0) 0 i e) (fun (i e : Nat) => cA (fun (x : Nat) => Int.ofNat 0) 0 i e) (fun (i e : Nat) => cB (fun (x : Nat) => Int.ofNat 0) 0 i e) (fun (e : Nat) => uP (fun (x : Nat) => Int.ofNat 0) 0 e) (fun (e : Nat) => uL (fun (x : Nat) => Int.ofNat 0) 0 e) fun (e : Nat) => uD (fun (x : Nat) => Int.ofNat 0) 0 e), lT (Cf.mk (Int.ofNat 1) (Int.ofNat 3) (Int.ofNat 1) (Int.ofNat 9) (Int.ofNat 8) (Int.ofNat 1) (Int.ofNat 1) (Int.ofNat 0) (Int.ofNat 1) 1 x.fst 0 x.snd.fst (fun (e : Nat) => 0) x.snd.snd (fun (i e : Nat) => cO (fun (x : Nat) => Int.ofNat 0) 0 i e) (fun (i e : Nat) => cA (fun (x : Nat) => Int.ofNat 0) 0 i e) (fun (i e : Nat) => cB (fun (x : Nat) => Int.ofNat 0) 0 i e) (fun (e : Nat) => uP (fun (x : Nat) => Int.ofNat 0) 0 e) (fun (e : Nat) => uL (fun (x : Nat) => Int.ofNat 0) 0 e) fun (e : Nat) => uD (fun (x : Nat) => Int.ofNat 0) 0 e))) fun (x_2 : Nat × Int) => V.need (I (XI2.mk 0 (Mm.mk (fun (e : Nat) => Int.ofNat 0) (Int.ofNat 0) (Int.ofNat 0) (Int.ofNat 0) (Int.ofNat 0) (Int.ofNat 0))))
    (V.need (Int.ofNat 0 = (↑0 : Int))
    (nN [(5, .eqI 0 0), (1, .eq 83 83), (1, .le 83 83), qF 83 (fun (e : Nat) => Int.ofNat 0)]
    (V.any XI2 I fun (x_3 : XI2) => V.br (decide ((↑x_3.i : Int) < (↑ls : Int)))
    (nN [(2, .lt2 0 1 0 1)]
    (V.br (decide ((↑x_3.i : Int) < Int.ofNat 9))
    (nN [(14, .lt2 0 1 0 1), (1, .eqI 1 1), (1, .eqI 3 3), (1, .eqI 1 1), (1, .eqI 9 9), (1, .eqI 8 8), (2, .eqI 1 1), (1, .eqI 0 0), (1, .eqI 1 1), (1, .eq 1 1), qE x.fst, (1, .eq 0 0), qE x.snd.fst, qE ((↑x_3.i : Int)), (1, .eqI 0 0), (1, .le 1 1), (1, .pf (∀ (i : Nat), i < 1 → 1 ≤ 1) (by intros; exact Nat.le_refl _)), (1, .pf (∀ (i e : Nat), i < 1 ∧ e < 1 → e = e) (by intros; rfl)), (1, .pf (∀ (i e : Nat), i < 1 ∧ e < 1 → 0 = 0) (by intros; rfl)), (1, .pf (∀ (i e : Nat), i < 1 ∧ e < 1 → x.snd.snd e = x.snd.snd e) (by intros; rfl)), (1, .le 1 1), (1, .pf (∀ (i : Nat), i < 1 → 0 ≤ 0) (by intros; exact Nat.le_refl _)), (1, .pf (∀ (i e : Nat), i < 1 ∧ e < 0 → uP (fun (x : Nat) => Int.ofNat 0) 0 e = uP (fun (x : Nat) => Int.ofNat 0) 0 e) (by intros; rfl)), (1, .pf (∀ (i e : Nat), i < 1 ∧ e < 0 → uL (fun (x : Nat) => Int.ofNat 0) 0 e = uL (fun (x : Nat) => Int.ofNat 0) 0 e) (by intros; rfl)), (1, .pf (∀ (i e : Nat), i < 1 ∧ e < 0 → uD (fun (x : Nat) => Int.ofNat 0) 0 e = uD (fun (x : Nat) => Int.ofNat 0) 0 e) (by intros; rfl))]
    (V.need (∀ (i : Nat), i < 1 → 0 ≤ gd 1 (fun (x : Nat) => 0) i ∧ 0 ≤ gd 1 x.snd.snd i)
    (nN [(1, .pf (∀ (i e : Nat), i < 1 ∧ e < 0 → cO (fun (x : Nat) => Int.ofNat 0) 0 i e = cO (fun (x : Nat) => Int.ofNat 0) 0 i e) (by intros; rfl)), (1, .pf (∀ (i e : Nat), i < 1 ∧ e < 0 → cA (fun (x : Nat) => Int.ofNat 0) 0 i e = cA (fun (x : Nat) => Int.ofNat 0) 0 i e) (by intros; rfl)), (1, .pf (∀ (i e : Nat), i < 1 ∧ e < 0 → cB (fun (x : Nat) => Int.ofNat 0) 0 i e = cB (fun (x : Nat) => Int.ofNat 0) 0 i e) (by intros; rfl))]
    (V.need (preTk (Cf.mk (Int.ofNat 1) (Int.ofNat 3) (Int.ofNat 1) (Int.ofNat 9) (Int.ofNat 8) (Int.ofNat 1) (Int.ofNat 1) (Int.ofNat 0) (Int.ofNat 1) 1 x.fst 0 x.snd.fst (fun (e : Nat) => 0) x.snd.snd (fun (i e : Nat) => cO (fun (x : Nat) => Int.ofNat 0) 0 i e) (fun (i e : Nat) => cA (fun (x : Nat) => Int.ofNat 0) 0 i e) (fun (i e : Nat) => cB (fun (x : Nat) => Int.ofNat 0) 0 i e) (fun (e : Nat) => uP (fun (x : Nat) => Int.ofNat 0) 0 e) (fun (e : Nat) => uL (fun (x : Nat) => Int.ofNat 0) 0 e) fun (e : Nat) => uD (fun (x : Nat) => Int.ofNat 0) 0 e) (↑x_3.i : Int) (Int.ofNat 0))
    (nN [qX (lT (Cf.mk (Int.ofNat 1) (Int.ofNat 3) (Int.ofNat 1) (Int.ofNat 9) (Int.ofNat 8) (Int.ofNat 1) (Int.ofNat 1) (Int.ofNat 0) (Int.ofNat 1) 1 x.fst 0 x.snd.fst (fun (e : Nat) => 0) x.snd.snd (fun (i e : Nat) => cO (fun (x : Nat) => Int.ofNat 0) 0 i e) (fun (i e : Nat) => cA (fun (x : Nat) => Int.ofNat 0) 0 i e) (fun (i e : Nat) => cB (fun (x : Nat) => Int.ofNat 0) 0 i e) (fun (e : Nat) => uP (fun (x : Nat) => Int.ofNat 0) 0 e) (fun (e : Nat) => uL (fun (x : Nat) => Int.ofNat 0) 0 e) fun (e : Nat) => uD (fun (x : Nat) => Int.ofNat 0) 0 e) + (↑x_3.i : Int) * Int.ofNat 5 + Int.ofNat 0)]
    (V.any Int (fun (r : Int) => r = lT (Cf.mk (Int.ofNat 1) (Int.ofNat 3) (Int.ofNat 1) (Int.ofNat 9) (Int.ofNat 8) (Int.ofNat 1) (Int.ofNat 1) (Int.ofNat 0) (Int.ofNat 1) 1 x.fst 0 x.snd.fst (fun (e : Nat) => 0) x.snd.snd (fun (i e : Nat) => cO (fun (x : Nat) => Int.ofNat 0) 0 i e) (fun (i e : Nat) => cA (fun (x : Nat) => Int.ofNat 0) 0 i e) (fun (i e : Nat) => cB (fun (x : Nat) => Int.ofNat 0) 0 i e) (fun (e : Nat) => uP (fun (x : Nat) => Int.ofNat 0) 0 e) (fun (e : Nat) => uL (fun (x : Nat) => Int.ofNat 0) 0 e) fun (e : Nat) => uD (fun (x : Nat) => Int.ofNat 0) 0 e) + (↑x_3.i : Int) * Int.ofNat 5 + Int.ofNat 0) fun (x : Int) => V.need (Int.ofNat 0 ≤ (↑x_3.i : Int) ∧ (↑x_3.i : Int) < (↑ls : Int))
    (V.need (0 < 1 ∧ 0 + (↑x_3.i : Int).toNat < ls)
    (V.need (0 < 1 ∧ 0 + (↑x_3.i : Int).toNat < ls)
    (nN [(1, .neI 5 0), qE x, qE (IntKind.u64.wrap ((s (0 + (↑x_3.i : Int).toNat)).tmod (Int.ofNat 5))), qE x_3.m.lk, qE x_3.m.lc, qE x_3.m.lo, qE x_3.m.ln, qE x_3.m.ct, (1, .eq 83 83), (1, .le 83 83), qF 83 x_3.m.g, qX (x_3.m.acc 83 (Int.ofNat 2) x (IntKind.u64.wrap ((s (0 + (↑x_3.i : Int).toNat)).tmod (Int.ofNat 5))))]
    (V.any Mm (fun (m' : Mm) => m' = x_3.m.acc 83 (Int.ofNat 2) x (IntKind.u64.wrap ((s (0 + (↑x_3.i : Int).toNat)).tmod (Int.ofNat 5)))) fun (x : Mm) => V.need (I (XI2.mk (IntKind.i64.wrap ((↑x_3.i : Int) + Int.ofNat 1)).toNat x))
    (V.need (min ls 9 - (IntKind.i64.wrap ((↑x_3.i : Int) + Int.ofNat 1)).toNat < min ls 9 - x_3.i)
    (V.need (IntKind.i64.wrap ((↑x_3.i : Int) + Int.ofNat 1) = (↑(IntKind.i64.wrap ((↑x_3.i : Int) + Int.ofNat 1)).toNat : Int))
    (nN [qE x.lk, qE x.lc, qE x.lo, qE x.ln, qE x.ct, (1, .eq 83 83), (1, .le 83 83), qF 83 x.g] V.ok)))))))))))))
    (V.need (J (XI2.mk 0 x_3.m))
    (V.need (Int.ofNat 0 = (↑0 : Int))
    (nN [qE x_3.m.lk, qE x_3.m.lc, qE x_3.m.lo, qE x_3.m.ln, qE x_3.m.ct, (1, .eq 83 83), (1, .le 83 83), qF 83 x_3.m.g]
    (V.any XI2 J fun (x : XI2) => V.br (decide ((↑x.i : Int) < (↑lg : Int)))
    (V.br (decide ((↑x.i : Int) < Int.ofNat 16))
    (V.need (Int.ofNat 0 ≤ (↑x.i : Int) ∧ (↑x.i : Int) < (↑lg : Int))
    (V.need (0 < 1 ∧ 0 + (↑x.i : Int).toNat < lg)
    (V.need (0 < 1 ∧ 0 + (↑x.i : Int).toNat < lg)
    (nN [(1, .neI 3 0)]
    (V.need (Int.ofNat 0 ≤ (↑x.i : Int) ∧ (↑x.i : Int) < (↑lg : Int))
    (V.need (0 < 1 ∧ 0 + (↑x.i : Int).toNat < lg)
    (V.need (0 < 1 ∧ 0 + (↑x.i : Int).toNat < lg)
    (nN [(1, .neI 3 0), (1, .neI 9 0)]
    (V.need (Int.ofNat 20 = (↑20 : Int))
    (nN [(1, .le 1 1), (1, .pf (∀ (i : Nat), i < 1 → 1 ≤ 1) (by intros; exact Nat.le_refl _)), (1, .eqI 1 1), (1, .eqI 3 3), (1, .eqI 1 1), (1, .eqI 9 9), (1, .eqI 8 8), (1, .eqI 1 1), (1, .eqI 5 5), (1, .eqI 6 6), (1, .eqI 7 7), (1, .eqI 8 8), (1, .eqI 38 38), qE x.m.lk, qE x.m.lc, qE x.m.lo, qE x.m.ln, qE x.m.ct, (1, .eq 83 83), (1, .le 83 83), qF 83 x.m.g, (1, .eqI 0 0), qE (IntKind.i64.wrap ((g (0 + (↑x.i : Int).toNat)).tmod (Int.ofNat 3))), qE (IntKind.i64.wrap ((IntKind.u8.wrap ((g (0 + (↑x.i : Int).toNat)).tdiv (Int.ofNat 3))).tmod (Int.ofNat 9)))]
    (V.need (pPu (AP.mk (Ly.mk (Int.ofNat 1) (Int.ofNat 3) (Int.ofNat 1) (Int.ofNat 9) (Int.ofNat 8) (Int.ofNat 1) (Int.ofNat 5) (Int.ofNat 6) (Int.ofNat 7) (Int.ofNat 8) (Int.ofNat 38)) 9 10 (NV.k 83) (NV.k 83) x.m) (Int.ofNat 0) 20)
    (nN [qX (puR (Ly.mk (Int.ofNat 1) (Int.ofNat 3) (Int.ofNat 1) (Int.ofNat 9) (Int.ofNat 8) (Int.ofNat 1) (Int.ofNat 5) (Int.ofNat 6) (Int.ofNat 7) (Int.ofNat 8) (Int.ofNat 38)) 83 (Int.ofNat 0) (IntKind.i64.wrap ((g (0 + (↑x.i : Int).toNat)).tmod (Int.ofNat 3))) (IntKind.i64.wrap ((IntKind.u8.wrap ((g (0 + (↑x.i : Int).toNat)).tdiv (Int.ofNat 3))).tmod (Int.ofNat 9))) 20 x.m)]
    (V.any Rs (fun (r : Rs) => r = puR (Ly.mk (Int.ofNat 1) (Int.ofNat 3) (Int.ofNat 1) (Int.ofNat 9) (Int.ofNat 8) (Int.ofNat 1) (Int.ofNat 5) (Int.ofNat 6) (Int.ofNat 7) (Int.ofNat 8) (Int.ofNat 38)) 83 (Int.ofNat 0) (IntKind.i64.wrap ((g (0 + (↑x.i : Int).toNat)).tmod (Int.ofNat 3))) (IntKind.i64.wrap ((IntKind.u8.wrap ((g (0 + (↑x.i : Int).toNat)).tdiv (Int.ofNat 3))).tmod (Int.ofNat 9))) 20 x.m) fun (x_4 : Rs) => V.need (J (XI2.mk (IntKind.i64.wrap ((↑x.i : Int) + Int.ofNat 1)).toNat x_4.m))
    (V.need (min lg 16 - (IntKind.i64.wrap ((↑x.i : Int) + Int.ofNat 1)).toNat < min lg 16 - x.i)
    (V.need (IntKind.i64.wrap ((↑x.i : Int) + Int.ofNat 1) = (↑(IntKind.i64.wrap ((↑x.i : Int) + Int.ofNat 1)).toNat : Int))
    (nN [qE x_4.m.lk, qE x_4.m.lc, qE x_4.m.lo, qE x_4.m.ln, qE x_4.m.ct, (1, .eq 83 83), (1, .le 83 83), qF 83 x_4.m.g] V.ok))))))))))))))))
    (V.need (φ (XLa.mk x_1.snd x.m))
    (nN [qE x_1.snd, qE x.m.lk, qE x.m.lc, qE x.m.lo, qE x.m.ln, qE x.m.ct, (1, .eq 83 83), (1, .le 83 83), qF 83 x.m.g, qE x_1.snd, (1, .le 9 9), qF 9 (fun (e : Nat) => false)] V.ok)))
    (V.need (φ (XLa.mk x_1.snd x.m))
    (nN [qE x_1.snd, qE x.m.lk, qE x.m.lc, qE x.m.lo, qE x.m.ln, qE x.m.ct, (1, .eq 83 83), (1, .le 83 83), qF 83 x.m.g, qE x_1.snd, (1, .le 9 9), qF 9 (fun (e : Nat) => false)] V.ok))))))))
    (V.need (J (XI2.mk 0 x_3.m))
    (V.need (Int.ofNat 0 = (↑0 : Int))
    (nN [qE x_3.m.lk, qE x_3.m.lc, qE x_3.m.lo, qE x_3.m.ln, qE x_3.m.ct, (1, .eq 83 83), (1, .le 83 83), qF 83 x_3.m.g]
    (V.any XI2 J fun (x : XI2) => V.br (decide ((↑x.i : Int) < (↑lg : Int)))
    (V.br (decide ((↑x.i : Int) < Int.ofNat 16))
    (V.need (Int.ofNat 0 ≤ (↑x.i : Int) ∧ (↑x.i : Int) < (↑lg : Int))
    (V.need (0 < 1 ∧ 0 + (↑x.i : Int).toNat < lg)
    (V.need (0 < 1 ∧ 0 + (↑x.i : Int).toNat < lg)
    (nN [(1, .neI 3 0)]
    (V.need (Int.ofNat 0 ≤ (↑x.i : Int) ∧ (↑x.i : Int) < (↑lg : Int))
    (V.need (0 < 1 ∧ 0 + (↑x.i : Int).toNat < lg)
    (V.need (0 < 1 ∧ 0 + (↑x.i : Int).toNat < lg)
    (nN [(1, .neI 3 0), (1, .neI 9 0)]
    (V.need (Int.ofNat 20 = (↑20 : Int))
    (nN [(1, .le 1 1), (1, .pf (∀ (i : Nat), i < 1 → 1 ≤ 1) (by intros; exact Nat.le_refl _)), (1, .eqI 1 1), (1, .eqI 3 3), (1, .eqI 1 1), (1, .eqI 9 9), (1, .eqI 8 8), (1, .eqI 1 1), (1, .eqI 5 5), (1, .eqI 6 6), (1, .eqI 7 7), (1, .eqI 8 8), (1, .eqI 38 38), qE x.m.lk, qE x.m.lc, qE x.m.lo, qE x.m.ln, qE x.m.ct, (1, .eq 83 83), (1, .le 83 83), qF 83 x.m.g, (1, .eqI 0 0), qE (IntKind.i64.wrap ((g (0 + (↑x.i : Int).toNat)).tmod (Int.ofNat 3))), qE (IntKind.i64.wrap ((IntKind.u8.wrap ((g (0 + (↑x.i : Int).toNat)).tdiv (Int.ofNat 3))).tmod (Int.ofNat 9)))]
    (V.need (pPu (AP.mk (Ly.mk (Int.ofNat 1) (Int.ofNat 3) (Int.ofNat 1) (Int.ofNat 9) (Int.ofNat 8) (Int.ofNat 1) (Int.ofNat 5) (Int.ofNat 6) (Int.ofNat 7) (Int.ofNat 8) (Int.ofNat 38)) 9 10 (NV.k 83) (NV.k 83) x.m) (Int.ofNat 0) 20)
    (nN [qX (puR (Ly.mk (Int.ofNat 1) (Int.ofNat 3) (Int.ofNat 1) (Int.ofNat 9) (Int.ofNat 8) (Int.ofNat 1) (Int.ofNat 5) (Int.ofNat 6) (Int.ofNat 7) (Int.ofNat 8) (Int.ofNat 38)) 83 (Int.ofNat 0) (IntKind.i64.wrap ((g (0 + (↑x.i : Int).toNat)).tmod (Int.ofNat 3))) (IntKind.i64.wrap ((IntKind.u8.wrap ((g (0 + (↑x.i : Int).toNat)).tdiv (Int.ofNat 3))).tmod (Int.ofNat 9))) 20 x.m)]
    (V.any Rs (fun (r : Rs) => r = puR (Ly.mk (Int.ofNat 1) (Int.ofNat 3) (Int.ofNat 1) (Int.ofNat 9) (Int.ofNat 8) (Int.ofNat 1) (Int.ofNat 5) (Int.ofNat 6) (Int.ofNat 7) (Int.ofNat 8) (Int.ofNat 38)) 83 (Int.ofNat 0) (IntKind.i64.wrap ((g (0 + (↑x.i : Int).toNat)).tmod (Int.ofNat 3))) (IntKind.i64.wrap ((IntKind.u8.wrap ((g (0 + (↑x.i : Int).toNat)).tdiv (Int.ofNat 3))).tmod (Int.ofNat 9))) 20 x.m) fun (x_4 : Rs) => V.need (J (XI2.mk (IntKind.i64.wrap ((↑x.i : Int) + Int.ofNat 1)).toNat x_4.m))
    (V.need (min lg 16 - (IntKind.i64.wrap ((↑x.i : Int) + Int.ofNat 1)).toNat < min lg 16 - x.i)
    (V.need (IntKind.i64.wrap ((↑x.i : Int) + Int.ofNat 1) = (↑(IntKind.i64.wrap ((↑x.i : Int) + Int.ofNat 1)).toNat : Int))
    (nN [qE x_4.m.lk, qE x_4.m.lc, qE x_4.m.lo, qE x_4.m.ln, qE x_4.m.ct, (1, .eq 83 83), (1, .le 83 83), qF 83 x_4.m.g] V.ok))))))))))))))))
    (V.need (φ (XLa.mk x_1.snd x.m))
    (nN [qE x_1.snd, qE x.m.lk, qE x.m.lc, qE x.m.lo, qE x.m.ln, qE x.m.ct, (1, .eq 83 83), (1, .le 83 83), qF 83 x.m.g, qE x_1.snd, (1, .le 9 9), qF 9 (fun (e : Nat) => false)] V.ok)))
    (V.need (φ (XLa.mk x_1.snd x.m))
    (nN [qE x_1.snd, qE x.m.lk, qE x.m.lc, qE x.m.lo, qE x.m.ln, qE x.m.ct, (1, .eq 83 83), (1, .le 83 83), qF 83 x.m.g, qE x_1.snd, (1, .le 9 9), qF 9 (fun (e : Nat) => false)] V.ok))))))))))))))))))))) := by kernel_rfl


end Go.Proofs.Ytomaagmleafjeaa.Md

/- Take's statements: an environment in whose deques tasks are laid: the contract. -/
set_option maxRecDepth 100000
namespace Go.Proofs.Ytomaagmleafjeaa.Md
open Go Go.RowKit Sx Cn Dc Ck Vc
theorem yT_small : yT.small := ⟨by show (0 : Int) ≤ 1 ∧ (1 : Int) ≤ 16; decide, by show (0 : Int) ≤ 3 ∧ (3 : Int) ≤ 64; decide, by show (0 : Int) ≤ 8 ∧ (8 : Int) ≤ 64; decide, by show (0 : Int) ≤ 8 ∧ (8 : Int) ≤ 1000; decide⟩
theorem yT_W : okAtT 0 yT.W yT.bm 1 := ⟨fun _ _ => by decide, by show (0 : Int) ≤ 7 ∧ (7 : Int) ≤ 1000000; decide⟩
theorem yT_ok : TaOK yT 0 := ⟨yT_small, yT_W, fun t => by
  show okAtT t 9 38 5
  exact ⟨fun h0 h1 => by omega, by decide⟩⟩
def okI2 (s : Nat → Int) (ls : Nat) (x : XI2) : Prop := x.i ≤ min ls 9 ∧ x.m = sttM s x.i
def okJ2 (g s : Nat → Int) (lg ls : Nat) (x : XI2) : Prop := x.i ≤ min lg 16 ∧ x.m = laM g s (min ls 9) x.i
set_option maxHeartbeats 8000000 in
theorem vhLa {g s : Nat → Int} {lg cg ls cs : Nat} : VHolds (verLa g s lg cg ls cs (okI2 s ls) (okJ2 g s lg ls) (φLa g s lg ls)) := by
  constructor
  rw [verLa_eq]
  ((repeat' first | with_reducible refine nN_h rfl ?_ | with_reducible refine V.brT ?_ | with_reducible refine V.brF ?_ | with_reducible refine V.needI ?_ ?_) <;> (try first | with_reducible exact V.okI | exact rfl | exact ⟨Nat.le_refl _, rfl⟩ | exact Nat.le_refl _ | assumption | omega | trivial | decide | (intros; rfl) | (intros; trivial)))
  · exact ⟨u8_0, by decide⟩
  · exact ⟨(1, 0, fun _ => 0), Nat.le_refl _⟩
  refine V.anyI fun x0 h0 => ?_
  ((repeat' first | with_reducible refine nN_h rfl ?_ | with_reducible refine V.brT ?_ | with_reducible refine V.brF ?_ | with_reducible refine V.needI ?_ ?_) <;> (try first | with_reducible exact V.okI | exact rfl | exact ⟨Nat.le_refl _, rfl⟩ | exact Nat.le_refl _ | assumption | omega | trivial | decide | (intros; rfl) | (intros; trivial)))
  all_goals try exact ⟨Nat.le_refl _, h0⟩
  all_goals try exact ⟨Nat.zero_le _, Nat.zero_le _⟩
  all_goals try exact fun _ _ => ⟨Nat.zero_le _, Nat.zero_le _⟩
  · exact err9 (by unfold okN; dsimp only; simp only [Int.ofNat_eq_natCast]; omega) rfl rfl rfl
  · exact ⟨(_, _), is_cl _, Nat.le_refl _⟩
  refine V.anyI fun d hd => ?_
  ((repeat' first | with_reducible refine nN_h rfl ?_ | with_reducible refine V.brT ?_ | with_reducible refine V.brF ?_ | with_reducible refine V.needI ?_ ?_) <;> (try first | with_reducible exact V.okI | exact rfl | exact ⟨Nat.le_refl _, rfl⟩ | exact Nat.le_refl _ | assumption | omega | trivial | decide | (intros; rfl) | (intros; trivial)))
  refine V.anyI fun q hq => ?_
  ((repeat' first | with_reducible refine nN_h rfl ?_ | with_reducible refine V.brT ?_ | with_reducible refine V.brF ?_ | with_reducible refine V.needI ?_ ?_) <;> (try first | with_reducible exact V.okI | exact rfl | exact ⟨Nat.le_refl _, rfl⟩ | exact Nat.le_refl _ | assumption | omega | trivial | decide | (intros; rfl) | (intros; trivial)))
  · exact ⟨Nat.zero_le _, rfl⟩
  refine V.anyI fun x hx => ?_
  obtain ⟨o1, o2⟩ := hx
  refine V.brI (fun hi => ?_) fun hi => ?_
  · have hi : x.i < ls := by have := of_decide_eq_true hi; omega
    ((repeat' first | with_reducible refine nN_h rfl ?_ | with_reducible refine V.brT ?_ | with_reducible refine V.brF ?_ | with_reducible refine V.needI ?_ ?_) <;> (try first | with_reducible exact V.okI | exact rfl | exact ⟨Nat.le_refl _, rfl⟩ | exact Nat.le_refl _ | assumption | omega | trivial | decide | (intros; rfl) | (intros; trivial)))
    refine V.brI (fun h9 => ?_) fun h9 => ?_
    · have h9 : x.i < 9 := by have : (x.i : Int) < (9 : Int) := of_decide_eq_true h9; omega
      have ei : IntKind.i64.wrap ((x.i : Int) + Int.ofNat 1) = ((x.i + 1 : Nat) : Int) := wnat (by omega)
      simp only [ei, Int.toNat_natCast, Nat.zero_add]
      ((repeat' first | with_reducible refine nN_h rfl ?_ | with_reducible refine V.brT ?_ | with_reducible refine V.brF ?_ | with_reducible refine V.needI ?_ ?_) <;> (try first | with_reducible exact V.okI | exact rfl | exact ⟨Nat.le_refl _, rfl⟩ | exact Nat.le_refl _ | assumption | omega | trivial | decide | (intros; rfl) | (intros; trivial)))
      all_goals try exact ⟨Int.natCast_nonneg _, by omega⟩
      all_goals try exact ⟨Nat.zero_lt_one, hi⟩
      all_goals try exact fun _ _ => ⟨Nat.zero_le _, Nat.zero_le _⟩
      · refine ⟨⟨show (1 : Int) ≤ 1 ∧ (1 : Int) ≤ 16 by decide, show (1 : Int) ≤ 3 ∧ (3 : Int) ≤ 64 by decide, show (1 : Int) ≤ 1 ∧ (1 : Int) ≤ 8 by decide, show (1 : Int) ≤ 9 ∧ (9 : Int) ≤ 256 by decide, show (1 : Int) ≤ 8 ∧ (8 : Int) ≤ 64 by decide, show (1 : Int) ≤ 1 ∧ (1 : Int) ≤ 64 by decide⟩, ⟨Int.natCast_nonneg _, by show (x.i : Int) < (9 : Int); omega⟩, by decide, by decide⟩
      refine V.anyI fun a ha => ?_
      ((repeat' first | with_reducible refine nN_h rfl ?_ | with_reducible refine V.brT ?_ | with_reducible refine V.brF ?_ | with_reducible refine V.needI ?_ ?_) <;> (try first | with_reducible exact V.okI | exact rfl | exact ⟨Nat.le_refl _, rfl⟩ | exact Nat.le_refl _ | assumption | omega | trivial | decide | (intros; rfl) | (intros; trivial)))
      all_goals try exact ⟨Int.natCast_nonneg _, by omega⟩
      all_goals try exact ⟨Nat.zero_lt_one, hi⟩
      refine V.anyI fun m hm => ?_
      ((repeat' first | with_reducible refine nN_h rfl ?_ | with_reducible refine V.brT ?_ | with_reducible refine V.brF ?_ | with_reducible refine V.needI ?_ ?_) <;> (try first | with_reducible exact V.okI | exact rfl | exact ⟨Nat.le_refl _, rfl⟩ | exact Nat.le_refl _ | assumption | omega | trivial | decide | (intros; rfl) | (intros; trivial)))
      refine ⟨by show x.i + 1 ≤ min ls 9; omega, ?_⟩
      dsimp only
      rw [hm, ha, o2]
      rfl
    · have h9 : ¬ x.i < 9 := by have : ¬ (x.i : Int) < (9 : Int) := of_decide_eq_false h9; omega
      have he : x.i = min ls 9 := by omega
      ((repeat' first | with_reducible refine nN_h rfl ?_ | with_reducible refine V.brT ?_ | with_reducible refine V.brF ?_ | with_reducible refine V.needI ?_ ?_) <;> (try first | with_reducible exact V.okI | exact rfl | exact ⟨Nat.le_refl _, rfl⟩ | exact Nat.le_refl _ | assumption | omega | trivial | decide | (intros; rfl) | (intros; trivial)))
      · exact ⟨Nat.zero_le _, by rw [o2, he]; rfl⟩
      refine V.anyI fun z hz => ?_
      obtain ⟨u1, u2⟩ := hz
      refine V.brI (fun hi2 => ?_) fun hi2 => ?_
      · have hi2 : z.i < lg := by have := of_decide_eq_true hi2; omega
        refine V.brI (fun h16 => ?_) fun h16 => ?_
        · have h16 : z.i < 16 := by have : (z.i : Int) < (16 : Int) := of_decide_eq_true h16; omega
          have ez : IntKind.i64.wrap ((z.i : Int) + Int.ofNat 1) = ((z.i + 1 : Nat) : Int) := wnat (by omega)
          simp only [ez, Int.toNat_natCast, Nat.zero_add]
          ((repeat' first | with_reducible refine nN_h rfl ?_ | with_reducible refine V.brT ?_ | with_reducible refine V.brF ?_ | with_reducible refine V.needI ?_ ?_) <;> (try first | with_reducible exact V.okI | exact rfl | exact ⟨Nat.le_refl _, rfl⟩ | exact Nat.le_refl _ | assumption | omega | trivial | decide | (intros; rfl) | (intros; trivial)))
          all_goals try exact ⟨Int.natCast_nonneg _, by omega⟩
          all_goals try exact ⟨Nat.zero_lt_one, hi2⟩
          · exact ⟨⟨yT_small, yT_W⟩, by decide⟩
          refine V.anyI fun R hR => ?_
          ((repeat' first | with_reducible refine nN_h rfl ?_ | with_reducible refine V.brT ?_ | with_reducible refine V.brF ?_ | with_reducible refine V.needI ?_ ?_) <;> (try first | with_reducible exact V.okI | exact rfl | exact ⟨Nat.le_refl _, rfl⟩ | exact Nat.le_refl _ | assumption | omega | trivial | decide | (intros; rfl) | (intros; trivial)))
          refine ⟨by show z.i + 1 ≤ min lg 16; omega, ?_⟩
          dsimp only
          rw [hR, u2]
          rfl
        · have h16 : ¬ z.i < 16 := by have : ¬ (z.i : Int) < (16 : Int) := of_decide_eq_false h16; omega
          ((repeat' first | with_reducible refine nN_h rfl ?_ | with_reducible refine V.brT ?_ | with_reducible refine V.brF ?_ | with_reducible refine V.needI ?_ ?_) <;> (try first | with_reducible exact V.okI | exact rfl | exact ⟨Nat.le_refl _, rfl⟩ | exact Nat.le_refl _ | assumption | omega | trivial | decide | (intros; rfl) | (intros; trivial)))
          exact ⟨hd.2, by rw [u2, show z.i = min lg 16 by omega]⟩
      · have hi2 : ¬ z.i < lg := by have := of_decide_eq_false hi2; omega
        ((repeat' first | with_reducible refine nN_h rfl ?_ | with_reducible refine V.brT ?_ | with_reducible refine V.brF ?_ | with_reducible refine V.needI ?_ ?_) <;> (try first | with_reducible exact V.okI | exact rfl | exact ⟨Nat.le_refl _, rfl⟩ | exact Nat.le_refl _ | assumption | omega | trivial | decide | (intros; rfl) | (intros; trivial)))
        exact ⟨hd.2, by rw [u2, show z.i = min lg 16 by omega]⟩
  · have hi : ¬ x.i < ls := by have := of_decide_eq_false hi; omega
    have he : x.i = min ls 9 := by omega
    ((repeat' first | with_reducible refine nN_h rfl ?_ | with_reducible refine V.brT ?_ | with_reducible refine V.brF ?_ | with_reducible refine V.needI ?_ ?_) <;> (try first | with_reducible exact V.okI | exact rfl | exact ⟨Nat.le_refl _, rfl⟩ | exact Nat.le_refl _ | assumption | omega | trivial | decide | (intros; rfl) | (intros; trivial)))
    · exact ⟨Nat.zero_le _, by rw [o2, he]; rfl⟩
    refine V.anyI fun z hz => ?_
    obtain ⟨u1, u2⟩ := hz
    refine V.brI (fun hi2 => ?_) fun hi2 => ?_
    · have hi2 : z.i < lg := by have := of_decide_eq_true hi2; omega
      refine V.brI (fun h16 => ?_) fun h16 => ?_
      · have h16 : z.i < 16 := by have : (z.i : Int) < (16 : Int) := of_decide_eq_true h16; omega
        have ez : IntKind.i64.wrap ((z.i : Int) + Int.ofNat 1) = ((z.i + 1 : Nat) : Int) := wnat (by omega)
        simp only [ez, Int.toNat_natCast, Nat.zero_add]
        ((repeat' first | with_reducible refine nN_h rfl ?_ | with_reducible refine V.brT ?_ | with_reducible refine V.brF ?_ | with_reducible refine V.needI ?_ ?_) <;> (try first | with_reducible exact V.okI | exact rfl | exact ⟨Nat.le_refl _, rfl⟩ | exact Nat.le_refl _ | assumption | omega | trivial | decide | (intros; rfl) | (intros; trivial)))
        all_goals try exact ⟨Int.natCast_nonneg _, by omega⟩
        all_goals try exact ⟨Nat.zero_lt_one, hi2⟩
        · exact ⟨⟨yT_small, yT_W⟩, by decide⟩
        refine V.anyI fun R hR => ?_
        ((repeat' first | with_reducible refine nN_h rfl ?_ | with_reducible refine V.brT ?_ | with_reducible refine V.brF ?_ | with_reducible refine V.needI ?_ ?_) <;> (try first | with_reducible exact V.okI | exact rfl | exact ⟨Nat.le_refl _, rfl⟩ | exact Nat.le_refl _ | assumption | omega | trivial | decide | (intros; rfl) | (intros; trivial)))
        refine ⟨by show z.i + 1 ≤ min lg 16; omega, ?_⟩
        dsimp only
        rw [hR, u2]
        rfl
      · have h16 : ¬ z.i < 16 := by have : ¬ (z.i : Int) < (16 : Int) := of_decide_eq_false h16; omega
        ((repeat' first | with_reducible refine nN_h rfl ?_ | with_reducible refine V.brT ?_ | with_reducible refine V.brF ?_ | with_reducible refine V.needI ?_ ?_) <;> (try first | with_reducible exact V.okI | exact rfl | exact ⟨Nat.le_refl _, rfl⟩ | exact Nat.le_refl _ | assumption | omega | trivial | decide | (intros; rfl) | (intros; trivial)))
        exact ⟨hd.2, by rw [u2, show z.i = min lg 16 by omega]⟩
    · have hi2 : ¬ z.i < lg := by have := of_decide_eq_false hi2; omega
      ((repeat' first | with_reducible refine nN_h rfl ?_ | with_reducible refine V.brT ?_ | with_reducible refine V.brF ?_ | with_reducible refine V.needI ?_ ?_) <;> (try first | with_reducible exact V.okI | exact rfl | exact ⟨Nat.le_refl _, rfl⟩ | exact Nat.le_refl _ | assumption | omega | trivial | decide | (intros; rfl) | (intros; trivial)))
      exact ⟨hd.2, by rw [u2, show z.i = min lg 16 by omega]⟩
noncomputable section
def outLa (g s : Nat → Int) (lg ls : Nat) : Out (SV × Hp) := .need True (.any XLa (φLa g s lg ls) fun x => .leaf (.t [.c (.ptr 2 (.k 0) (.k 0) 0 26), .c (.kb true)], ⟨hLa x, 6, fun _ => True⟩))
/-- A column's numbers, also where they are listed. -/
def rowL (k : Nat) (h : HL) : Option (Nat → Int) := match find k h with
  | some b => match colsB b with
    | [c] => colG c
    | _ => none
  | none => none
def cLa : List SV → Hp → Out (SV × Hp) := fun args H => match args with
  | [.c (.slc k1 _ _ _ lg cg), .c (.slc k2 _ _ _ ls cs)] => fN k1 fun k1 => fN k2 fun k2 => match rowL k1 H.h, rowL k2 H.h with
    | some g, some s => useP [k1, k2] 2 [.c (slK 0 1 lg.v cg.v), .c (slK 1 1 ls.v cs.v)] [(0, ints .u8 lg.v fun e => g e), (1, ints .u8 ls.v fun e => s e)] (outLa (fun e => g e) (fun e => s e) lg.v ls.v) args H
    | _, _ => .bad 434
  | _ => .bad 435
theorem cLa_ok : ContractOK P fLai cLa := contract_of_useP fun args H => by
  unfold cLa
  simp only [fN_eq]
  repeat' split
  all_goals first | exact .inl ⟨_, rfl⟩ | exact .inr ⟨_, _, _, _, _, rfl, local_of_ver conLa_ok fun _ => vhLa⟩
end
end Go.Proofs.Ytomaagmleafjeaa.Md
