/- Config of the statements: the conditions, printed by program. -/
import Derived.Test.YtgnohehpcecoiaaGreatMNw
import Derived.Test.YtgnohehpcecoiaaGreatMW
set_option linter.unusedVariables false
set_option linter.unusedSimpArgs false
set_option maxRecDepth 100000
namespace Go.Proofs.YtgnohehpcecoiaaGreat.Vc
open Go Go.RowKit Sx Cn Dc Ck

theorem verAw15_eq  : verAw15 =
  V.need ((U8 0 fun (x : Nat) => Int.ofNat 0) ∧ 0 ≤ 9)
    (V.need (∃ (x : Nat × Nat × (Nat → Nat)), 1 ≤ x.fst)
    (V.any (Nat × Nat × (Nat → Nat)) (fun (x : Nat × Nat × (Nat → Nat)) => 1 ≤ x.fst) fun (x : Nat × Nat × (Nat → Nat)) => nN [(7, .eqI 1 1), (1, .eqI 0 0), (1, .eqI 1 1), (1, .eq 1 1)]
    (V.need (x.fst = x.fst)
    (nN [(1, .eq 0 0)]
    (V.need (x.snd.fst = x.snd.fst)
    (nN [(1, .le 1 1)]
    (V.need (1 ≤ 1 ∧ 1 ≤ x.fst)
    (V.need (∀ (i e : Nat), i = 0 ∧ e < 1 → e = e)
    (V.need (∀ (i e : Nat), i = 0 ∧ e < 1 → 0 = 0)
    (V.need (∀ (i e : Nat), i = 0 ∧ e < 1 → x.snd.snd e = x.snd.snd e)
    (nN [(1, .le 1 1)]
    (V.need (0 ≤ 0 ∧ 0 ≤ x.snd.fst)
    (V.need (∀ (i e : Nat), i = 0 ∧ e < 0 → uP (fun (x : Nat) => Int.ofNat 0) 0 e = uP (fun (x : Nat) => Int.ofNat 0) 0 e)
    (V.need (∀ (i e : Nat), i = 0 ∧ e < 0 → uL (fun (x : Nat) => Int.ofNat 0) 0 e = uL (fun (x : Nat) => Int.ofNat 0) 0 e)
    (V.need (∀ (i e : Nat), i = 0 ∧ e < 0 → uD (fun (x : Nat) => Int.ofNat 0) 0 e = uD (fun (x : Nat) => Int.ofNat 0) 0 e)
    (V.need (∀ (i : Nat), i < 1 → 0 ≤ gd 1 (fun (x : Nat) => 0) i ∧ 0 ≤ gd 1 (fun (e : Nat) => x.snd.snd e) i)
    (V.need (∀ (i e : Nat), i < 1 ∧ e < 0 → cO (fun (x : Nat) => Int.ofNat 0) 0 i e = cO (fun (x : Nat) => Int.ofNat 0) 0 i e)
    (V.need (∀ (i e : Nat), i < 1 ∧ e < 0 → cA (fun (x : Nat) => Int.ofNat 0) 0 i e = cA (fun (x : Nat) => Int.ofNat 0) 0 i e)
    (V.need (∀ (i e : Nat), i < 1 ∧ e < 0 → cB (fun (x : Nat) => Int.ofNat 0) 0 i e = cB (fun (x : Nat) => Int.ofNat 0) 0 i e)
    (V.need (errE (Cf.mk (Int.ofNat 1) (Int.ofNat 1) (Int.ofNat 1) (Int.ofNat 1) (Int.ofNat 1) (Int.ofNat 1) (Int.ofNat 1) (Int.ofNat 0) (Int.ofNat 1) 1 x.fst 0 x.snd.fst (fun (e : Nat) => 0) (fun (e : Nat) => x.snd.snd e) (fun (i e : Nat) => cO (fun (x : Nat) => Int.ofNat 0) 0 i e) (fun (i e : Nat) => cA (fun (x : Nat) => Int.ofNat 0) 0 i e) (fun (i e : Nat) => cB (fun (x : Nat) => Int.ofNat 0) 0 i e) (fun (e : Nat) => uP (fun (x : Nat) => Int.ofNat 0) 0 e) (fun (e : Nat) => uL (fun (x : Nat) => Int.ofNat 0) 0 e) fun (e : Nat) => uD (fun (x : Nat) => Int.ofNat 0) 0 e) = Int.ofNat 0)
    (V.need (∃ (x_1 : Cf × Nat), IsCl (Cf.mk (Int.ofNat 1) (Int.ofNat 1) (Int.ofNat 1) (Int.ofNat 1) (Int.ofNat 1) (Int.ofNat 1) (Int.ofNat 1) (Int.ofNat 0) (Int.ofNat 1) 1 x.fst 0 x.snd.fst (fun (e : Nat) => 0) (fun (e : Nat) => x.snd.snd e) (fun (i e : Nat) => cO (fun (x : Nat) => Int.ofNat 0) 0 i e) (fun (i e : Nat) => cA (fun (x : Nat) => Int.ofNat 0) 0 i e) (fun (i e : Nat) => cB (fun (x : Nat) => Int.ofNat 0) 0 i e) (fun (e : Nat) => uP (fun (x : Nat) => Int.ofNat 0) 0 e) (fun (e : Nat) => uL (fun (x : Nat) => Int.ofNat 0) 0 e) fun (e : Nat) => uD (fun (x : Nat) => Int.ofNat 0) 0 e) x_1.fst ∧ (Int.ofNat 1).toNat ≤ x_1.snd)
    (V.any (Cf × Nat) (fun (x_1 : Cf × Nat) => IsCl (Cf.mk (Int.ofNat 1) (Int.ofNat 1) (Int.ofNat 1) (Int.ofNat 1) (Int.ofNat 1) (Int.ofNat 1) (Int.ofNat 1) (Int.ofNat 0) (Int.ofNat 1) 1 x.fst 0 x.snd.fst (fun (e : Nat) => 0) (fun (e : Nat) => x.snd.snd e) (fun (i e : Nat) => cO (fun (x : Nat) => Int.ofNat 0) 0 i e) (fun (i e : Nat) => cA (fun (x : Nat) => Int.ofNat 0) 0 i e) (fun (i e : Nat) => cB (fun (x : Nat) => Int.ofNat 0) 0 i e) (fun (e : Nat) => uP (fun (x : Nat) => Int.ofNat 0) 0 e) (fun (e : Nat) => uL (fun (x : Nat) => Int.ofNat 0) 0 e) fun (e : Nat) => uD (fun (x : Nat) => Int.ofNat 0) 0 e) x_1.fst ∧ (Int.ofNat 1).toNat ≤ x_1.snd) fun (x : Cf × Nat) => nN [(19, .lt2 0 1 0 1), (2, .lt 1 16), (5, .lt2 0 1 0 1), (1, .lt2 0 1 1 16), (3, .lt 1 16), (25, .lt2 0 1 0 1), (2, .lt 1 16), (4, .lt2 0 1 0 1), (1, .lt2 0 1 1 16), (3, .lt 1 16), (6, .lt2 0 1 0 1), (2, .lt 1 16), (16, .lt2 0 1 0 1), (2, .lt 1 16), (4, .lt2 0 1 0 1), (1, .lt2 0 1 1 16), (3, .lt 1 16), (25, .lt2 0 1 0 1), (2, .lt 1 16), (5, .lt2 0 1 0 1), (1, .lt2 0 1 1 16), (3, .lt 1 16), (6, .lt2 0 1 0 1), (2, .lt 1 16)]
    (V.need True V.ok))))))))))))))))))))))) := by kernel_rfl

end Go.Proofs.YtgnohehpcecoiaaGreat.Vc

/- LockFree: the conditions hold; the walk. -/
set_option maxRecDepth 100000
namespace Go.Proofs.YtgnohehpcecoiaaGreat.Vc
open Go Go.RowKit Sx Cn Dc Ck
theorem vhAw15 : VHolds verAw15 := by
  constructor
  rw [verAw15_eq]
  repeat' first
    | with_reducible exact V.okI
    | with_reducible refine V.anyI ?_
    | with_reducible refine nN_h ?_ ?_
    | with_reducible refine V.needI ?_ ?_
    | intro _
  all_goals first
    | rfl
    | exact True.intro
    | exact ⟨u8_0, by decide⟩
    | exact ⟨(1, 0, fun _ => 0), Nat.le_refl _⟩
    | exact ⟨Nat.le_refl _, by assumption⟩
    | exact Nat.zero_le _
    | exact ⟨Nat.zero_le _, Nat.zero_le _⟩
    | exact ⟨(_, _), is_cl _, Nat.le_refl _⟩
    | exact err9 (by unfold okN; simp only [Int.ofNat_eq_natCast]; omega) rfl rfl rfl
end Go.Proofs.YtgnohehpcecoiaaGreat.Vc
