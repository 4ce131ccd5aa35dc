/- The sanity check: the conditions, printed by program. -/
import Derived.Test.YtomaagmleafjeaaMMdAw19D
import Derived.Test.YtomaagmleafjeaaMW
import Derived.Test.YtomaagmleafjeaaMNw
import Derived.Test.YtomaagmleafjeaaMMd
set_option linter.unusedVariables false
set_option linter.unusedSimpArgs false
set_option linter.unusedVariables false
set_option maxRecDepth 100000
namespace Go.Proofs.Ytomaagmleafjeaa.Md
open Go Go.RowKit Sx Cn Dc Ck Vc

theorem vAw19_eq  : vAw19 =
  V.need ((U8 0 fun (x : Nat) => Int.ofNat 0) ∧ 0 ≤ 9)
    (V.need (∃ (x : Nat × Nat × (Nat → Nat)), 1 ≤ x.fst)
    (V.any (Nat × Nat × (Nat → Nat)) (fun (x : Nat × Nat × (Nat → Nat)) => 1 ≤ x.fst) fun (x : Nat × Nat × (Nat → Nat)) => nN [(1, .eqI 1 1), (1, .eqI 3 3), (1, .eqI 1 1), (1, .eqI 8 8), (1, .eqI 4 4), (2, .eqI 1 1), (1, .eqI 0 0), (1, .eqI 1 1), (1, .eq 1 1), (1, .pf (x.fst = x.fst) rfl), (1, .eq 0 0), (1, .pf (x.snd.fst = x.snd.fst) rfl), (1, .le 1 1)]
    (V.need (1 ≤ 1 ∧ 1 ≤ x.fst)
    (nN [(1, .pf (∀ (i e : Nat), i = 0 ∧ e < 1 → e = e) (by intros; rfl)), (1, .pf (∀ (i e : Nat), i = 0 ∧ e < 1 → 0 = 0) (by intros; rfl)), (1, .pf (∀ (i e : Nat), i = 0 ∧ e < 1 → x.snd.snd e = x.snd.snd e) (by intros; rfl)), (1, .le 1 1)]
    (V.need (0 ≤ 0 ∧ 0 ≤ x.snd.fst)
    (nN [(1, .pf (∀ (i e : Nat), i = 0 ∧ e < 0 → uP (fun (x : Nat) => Int.ofNat 0) 0 e = uP (fun (x : Nat) => Int.ofNat 0) 0 e) (by intros; rfl)), (1, .pf (∀ (i e : Nat), i = 0 ∧ e < 0 → uL (fun (x : Nat) => Int.ofNat 0) 0 e = uL (fun (x : Nat) => Int.ofNat 0) 0 e) (by intros; rfl)), (1, .pf (∀ (i e : Nat), i = 0 ∧ e < 0 → uD (fun (x : Nat) => Int.ofNat 0) 0 e = uD (fun (x : Nat) => Int.ofNat 0) 0 e) (by intros; rfl))]
    (V.need (∀ (i : Nat), i < 1 → 0 ≤ gd 1 (fun (x : Nat) => 0) i ∧ 0 ≤ gd 1 (fun (e : Nat) => x.snd.snd e) i)
    (nN [(1, .pf (∀ (i e : Nat), i < 1 ∧ e < 0 → cO (fun (x : Nat) => Int.ofNat 0) 0 i e = cO (fun (x : Nat) => Int.ofNat 0) 0 i e) (by intros; rfl)), (1, .pf (∀ (i e : Nat), i < 1 ∧ e < 0 → cA (fun (x : Nat) => Int.ofNat 0) 0 i e = cA (fun (x : Nat) => Int.ofNat 0) 0 i e) (by intros; rfl)), (1, .pf (∀ (i e : Nat), i < 1 ∧ e < 0 → cB (fun (x : Nat) => Int.ofNat 0) 0 i e = cB (fun (x : Nat) => Int.ofNat 0) 0 i e) (by intros; rfl))]
    (V.need (errE (Cf.mk (Int.ofNat 1) (Int.ofNat 3) (Int.ofNat 1) (Int.ofNat 8) (Int.ofNat 4) (Int.ofNat 1) (Int.ofNat 1) (Int.ofNat 0) (Int.ofNat 1) 1 x.fst 0 x.snd.fst (fun (e : Nat) => 0) (fun (e : Nat) => x.snd.snd e) (fun (i e : Nat) => cO (fun (x : Nat) => Int.ofNat 0) 0 i e) (fun (i e : Nat) => cA (fun (x : Nat) => Int.ofNat 0) 0 i e) (fun (i e : Nat) => cB (fun (x : Nat) => Int.ofNat 0) 0 i e) (fun (e : Nat) => uP (fun (x : Nat) => Int.ofNat 0) 0 e) (fun (e : Nat) => uL (fun (x : Nat) => Int.ofNat 0) 0 e) fun (e : Nat) => uD (fun (x : Nat) => Int.ofNat 0) 0 e) = Int.ofNat 0)
    (V.need (∃ (x_1 : Cf × Nat), IsCl (Cf.mk (Int.ofNat 1) (Int.ofNat 3) (Int.ofNat 1) (Int.ofNat 8) (Int.ofNat 4) (Int.ofNat 1) (Int.ofNat 1) (Int.ofNat 0) (Int.ofNat 1) 1 x.fst 0 x.snd.fst (fun (e : Nat) => 0) (fun (e : Nat) => x.snd.snd e) (fun (i e : Nat) => cO (fun (x : Nat) => Int.ofNat 0) 0 i e) (fun (i e : Nat) => cA (fun (x : Nat) => Int.ofNat 0) 0 i e) (fun (i e : Nat) => cB (fun (x : Nat) => Int.ofNat 0) 0 i e) (fun (e : Nat) => uP (fun (x : Nat) => Int.ofNat 0) 0 e) (fun (e : Nat) => uL (fun (x : Nat) => Int.ofNat 0) 0 e) fun (e : Nat) => uD (fun (x : Nat) => Int.ofNat 0) 0 e) x_1.fst ∧ (Int.ofNat 8).toNat ≤ x_1.snd)
    (V.any (Cf × Nat) (fun (x_1 : Cf × Nat) => IsCl (Cf.mk (Int.ofNat 1) (Int.ofNat 3) (Int.ofNat 1) (Int.ofNat 8) (Int.ofNat 4) (Int.ofNat 1) (Int.ofNat 1) (Int.ofNat 0) (Int.ofNat 1) 1 x.fst 0 x.snd.fst (fun (e : Nat) => 0) (fun (e : Nat) => x.snd.snd e) (fun (i e : Nat) => cO (fun (x : Nat) => Int.ofNat 0) 0 i e) (fun (i e : Nat) => cA (fun (x : Nat) => Int.ofNat 0) 0 i e) (fun (i e : Nat) => cB (fun (x : Nat) => Int.ofNat 0) 0 i e) (fun (e : Nat) => uP (fun (x : Nat) => Int.ofNat 0) 0 e) (fun (e : Nat) => uL (fun (x : Nat) => Int.ofNat 0) 0 e) fun (e : Nat) => uD (fun (x : Nat) => Int.ofNat 0) 0 e) x_1.fst ∧ (Int.ofNat 8).toNat ≤ x_1.snd) fun (x : Cf × Nat) => nN [(25, .lt2 0 1 0 1), (1, .eqI 27 27), (5, .eqI 0 0), (1, .eq 66 66), (1, .le 66 66), (39, .lt2 0 1 0 1), (1, .eqI 27 27), (1, .eqI 0 0), (1, .eqI 2 2), (1, .eqI 1 1), (1, .eqI 27 27), (2, .eqI 0 0), (1, .eqI 1 1), (1, .eq 66 66), (1, .le 66 66)]
    (V.need (numAt [SC.ki IntKind.u64 (Int.ofNat 0), SC.ki IntKind.u64 (Int.ofNat 0), SC.ki IntKind.u64 (Int.ofNat 0), SC.ki IntKind.u64 (Int.ofNat 0), SC.ki IntKind.u64 (Int.ofNat 0), SC.ki IntKind.u64 (Int.ofNat 0), SC.ki IntKind.u64 (Int.ofNat 0), SC.ki IntKind.u64 (Int.ofNat 0), SC.ki IntKind.u64 (Int.ofNat 0), SC.ki IntKind.u64 (Int.ofNat 0), SC.ki IntKind.u64 (Int.ofNat 0), SC.ki IntKind.u64 (Int.ofNat 0), SC.ki IntKind.u64 (Int.ofNat 0), SC.ki IntKind.u64 (Int.ofNat 0), SC.ki IntKind.u64 (Int.ofNat 0), SC.ki IntKind.u64 (Int.ofNat 0), SC.ki IntKind.u64 (Int.ofNat 0), SC.ki IntKind.u64 (Int.ofNat 0), SC.ki IntKind.u64 (Int.ofNat 0), SC.ki IntKind.u64 (Int.ofNat 0), SC.ki IntKind.u64 (Int.ofNat 0), SC.ki IntKind.u64 (Int.ofNat 0), SC.ki IntKind.u64 (Int.ofNat 0), SC.ki IntKind.u64 (Int.ofNat 0), SC.ki IntKind.u64 (Int.ofNat 0), SC.ki IntKind.u64 (Int.ofNat 0), SC.ki IntKind.u64 (Int.ofNat 0), SC.ki IntKind.u64 (Int.ofNat 0), SC.ki IntKind.u64 (Int.ofNat 0), SC.ki IntKind.u64 (Int.ofNat 0), SC.ki IntKind.u64 (Int.ofNat 0), SC.ki IntKind.u64 (Int.ofNat 0), SC.ki IntKind.u64 (Int.ofNat 0), SC.ki IntKind.u64 (Int.ofNat 0), SC.ki IntKind.u64 (Int.ofNat 0), SC.ki IntKind.u64 (Int.ofNat 0), SC.ki IntKind.u64 (Int.ofNat 0), SC.ki IntKind.u64 (Int.ofNat 0), SC.ki IntKind.u64 (Int.ofNat 0), SC.ki IntKind.u64 (Int.ofNat 0), SC.ki IntKind.u64 (Int.ofNat 0), SC.ki IntKind.u64 (Int.ofNat 0), SC.ki IntKind.u64 (Int.ofNat 0), SC.ki IntKind.u64 (Int.ofNat 0), SC.ki IntKind.u64 (Int.ofNat 0), SC.ki IntKind.u64 (Int.ofNat 0), SC.ki IntKind.u64 (Int.ofNat 0), SC.ki IntKind.u64 (Int.ofNat 0), SC.ki IntKind.u64 (Int.ofNat 0), SC.ki IntKind.u64 (Int.ofNat 0), SC.ki IntKind.u64 (Int.ofNat 0), SC.ki IntKind.u64 (Int.ofNat 0), SC.ki IntKind.u64 (Int.ofNat 0), SC.ki IntKind.u64 (Int.ofNat 0), SC.ki IntKind.u64 (Int.ofNat 0), SC.ki IntKind.u64 (Int.ofNat 0), SC.ki IntKind.u64 (Int.ofNat 0), SC.ki IntKind.u64 (Int.ofNat 0), SC.ki IntKind.u64 (Int.ofNat 0), SC.ki IntKind.u64 (Int.ofNat 0), SC.ki IntKind.u64 (Int.ofNat 0), SC.ki IntKind.u64 (Int.ofNat 0), SC.ki IntKind.u64 (Int.ofNat 0), SC.ki IntKind.u64 (Int.ofNat 0), SC.ki IntKind.u64 (Int.ofNat 0), SC.ki IntKind.u64 (Int.ofNat 0)] 27 = Int.ofNat 0)
    (nN [(22, .lt2 0 1 0 1)]
    (V.need (0 + 1 ≤ 9223372036854775807 ∧ (0 + 1) * 40 ≤ 140737488355328)
    (V.any Nat (fun (x : Nat) => 0 + 1 ≤ x) fun (x : Nat) => nN [(33, .lt2 0 1 0 1), (1, .eqI 27 27), (1, .eqI 3 3), (1, .eqI 27 27), (1, .eqI 0 0), (2, .eqI 2 2), (1, .eq 66 66), (1, .le 66 66), (17, .lt2 0 1 0 1)]
    (V.need ((U8 0 fun (x : Nat) => Int.ofNat 0) ∧ 0 ≤ 9)
    (V.need (∃ (x : Nat × Nat × (Nat → Nat)), 1 ≤ x.fst)
    (V.any (Nat × Nat × (Nat → Nat)) (fun (x : Nat × Nat × (Nat → Nat)) => 1 ≤ x.fst) fun (x_1 : Nat × Nat × (Nat → Nat)) => nN [(19, .lt2 0 1 0 1), (1, .eqI 31 31), (2, .eqI 1 1), (1, .eqI 27 27), (2, .eqI 2 2), (1, .eqI 3 3), (1, .eq 66 66), (1, .le 66 66), (42, .lt2 0 1 0 1), (1, .eqI 32 32), (1, .eqI 2 2), (1, .eqI 31 31), (1, .eqI 0 0), (1, .eqI 1 1), (1, .eqI 4 4), (1, .eq 66 66), (1, .le 66 66), (39, .lt2 0 1 0 1), (1, .eqI 32 32), (1, .eqI 0 0), (1, .eqI 2 2), (1, .eqI 1 1), (1, .eqI 32 32), (2, .eqI 0 0), (1, .eqI 5 5), (1, .eq 66 66), (1, .le 66 66)]
    (V.need (numAt [SC.ki IntKind.u64 (Int.ofNat 0), SC.ki IntKind.u64 (Int.ofNat 0), SC.ki IntKind.u64 (Int.ofNat 0), SC.ki IntKind.u64 (Int.ofNat 0), SC.ki IntKind.u64 (Int.ofNat 0), SC.ki IntKind.u64 (Int.ofNat 0), SC.ki IntKind.u64 (Int.ofNat 0), SC.ki IntKind.u64 (Int.ofNat 0), SC.ki IntKind.u64 (Int.ofNat 0), SC.ki IntKind.u64 (Int.ofNat 0), SC.ki IntKind.u64 (Int.ofNat 0), SC.ki IntKind.u64 (Int.ofNat 0), SC.ki IntKind.u64 (Int.ofNat 0), SC.ki IntKind.u64 (Int.ofNat 0), SC.ki IntKind.u64 (Int.ofNat 0), SC.ki IntKind.u64 (Int.ofNat 0), SC.ki IntKind.u64 (Int.ofNat 0), SC.ki IntKind.u64 (Int.ofNat 0), SC.ki IntKind.u64 (Int.ofNat 0), SC.ki IntKind.u64 (Int.ofNat 0), SC.ki IntKind.u64 (Int.ofNat 0), SC.ki IntKind.u64 (Int.ofNat 0), SC.ki IntKind.u64 (Int.ofNat 0), SC.ki IntKind.u64 (Int.ofNat 0), SC.ki IntKind.u64 (Int.ofNat 0), SC.ki IntKind.u64 (Int.ofNat 0), SC.ki IntKind.u64 (Int.ofNat 0), SC.ki IntKind.u64 (Int.ofNat 2), SC.ki IntKind.u64 (Int.ofNat 0), SC.ki IntKind.u64 (Int.ofNat 0), SC.ki IntKind.u64 (Int.ofNat 0), SC.ki IntKind.u64 (Int.ofNat 1), SC.ki IntKind.u64 (Int.ofNat 0), SC.ki IntKind.u64 (Int.ofNat 0), SC.ki IntKind.u64 (Int.ofNat 0), SC.ki IntKind.u64 (Int.ofNat 0), SC.ki IntKind.u64 (Int.ofNat 0), SC.ki IntKind.u64 (Int.ofNat 0), SC.ki IntKind.u64 (Int.ofNat 0), SC.ki IntKind.u64 (Int.ofNat 0), SC.ki IntKind.u64 (Int.ofNat 0), SC.ki IntKind.u64 (Int.ofNat 0), SC.ki IntKind.u64 (Int.ofNat 0), SC.ki IntKind.u64 (Int.ofNat 0), SC.ki IntKind.u64 (Int.ofNat 0), SC.ki IntKind.u64 (Int.ofNat 0), SC.ki IntKind.u64 (Int.ofNat 0), SC.ki IntKind.u64 (Int.ofNat 0), SC.ki IntKind.u64 (Int.ofNat 0), SC.ki IntKind.u64 (Int.ofNat 0), SC.ki IntKind.u64 (Int.ofNat 0), SC.ki IntKind.u64 (Int.ofNat 0), SC.ki IntKind.u64 (Int.ofNat 0), SC.ki IntKind.u64 (Int.ofNat 0), SC.ki IntKind.u64 (Int.ofNat 0), SC.ki IntKind.u64 (Int.ofNat 0), SC.ki IntKind.u64 (Int.ofNat 0), SC.ki IntKind.u64 (Int.ofNat 0), SC.ki IntKind.u64 (Int.ofNat 0), SC.ki IntKind.u64 (Int.ofNat 0), SC.ki IntKind.u64 (Int.ofNat 0), SC.ki IntKind.u64 (Int.ofNat 0), SC.ki IntKind.u64 (Int.ofNat 0), SC.ki IntKind.u64 (Int.ofNat 0), SC.ki IntKind.u64 (Int.ofNat 0), SC.ki IntKind.u64 (Int.ofNat 0)] 32 = Int.ofNat 0)
    (nN [(22, .lt2 0 1 0 1)]
    (V.need (1 ≤ 0 + 1 ∧ x = x)
    (V.need (1 + 1 ≤ 9223372036854775807 ∧ (1 + 1) * 40 ≤ 140737488355328)
    (V.any Nat (fun (x : Nat) => 1 + 1 ≤ x) fun (x : Nat) => nN [(27, .lt2 0 1 0 1), (1, .eqI 31 31), (1, .eqI 3 3), (1, .eqI 32 32), (1, .eqI 0 0), (1, .eqI 2 2), (1, .eqI 6 6), (1, .eq 66 66), (1, .le 66 66), (44, .lt2 0 1 0 1), (1, .eqI 21 21), (1, .eqI 1 1), (1, .eqI 31 31), (2, .eqI 1 1), (1, .eqI 7 7), (1, .eq 66 66), (1, .le 66 66), (9, .lt2 0 1 0 1), (1, .eqI 20 20), (1, .eqI 1 1), (1, .eqI 21 21), (2, .eqI 0 0), (1, .eqI 8 8), (1, .eq 66 66), (1, .le 66 66), (23, .lt2 0 1 0 1), (1, .neI 4 0), (3, .lt2 0 1 0 1), (1, .eqI 22 22), (2, .eqI 1 1), (1, .eqI 20 20), (2, .eqI 0 0), (1, .eqI 9 9), (1, .eq 66 66), (1, .le 66 66), (10, .lt2 0 1 0 1), (1, .eqI 21 21), (1, .eqI 1 1), (1, .eqI 2 2), (1, .eqI 22 22), (1, .eqI 0 0), (1, .eqI 1 1), (1, .eqI 10 10), (1, .eq 66 66), (1, .le 66 66), (38, .lt2 0 1 0 1), (1, .leI 0 2), (1, .eqI 7 7), (1, .eqI 4 4), (1, .eqI 2 2), (1, .eqI 21 21), (1, .eqI 0 0), (1, .eqI 1 1), (1, .eqI 11 11), (1, .eq 66 66), (1, .le 66 66), (31, .lt2 0 1 0 1), (1, .eqI 34 34), (1, .eqI 4 4), (1, .eqI 7 7), (1, .eqI 0 0), (1, .eqI 4 4), (1, .eqI 12 12), (1, .eq 66 66), (1, .le 66 66), (6, .lt2 0 1 0 1)]
    (V.need True V.ok)))))))))))))))))))))))) := by kernel_rfl


end Go.Proofs.Ytomaagmleafjeaa.Md

/- The sanity check of chapter 19: the contract. -/
set_option linter.unusedVariables false
set_option linter.unusedSimpArgs false
set_option maxRecDepth 100000
namespace Go.Proofs.Ytomaagmleafjeaa.Md
open Go Go.RowKit Sx Cn Dc Ck Vc
theorem vhAw19 : VHolds vAw19 := by
  constructor
  rw [vAw19_eq]
  (repeat' first | with_reducible exact V.okI | with_reducible refine V.brT ?_ | with_reducible refine V.brF ?_ | with_reducible refine V.brI ?_ ?_ | with_reducible refine V.anyI ?_ | with_reducible refine nN_h ?_ ?_ | with_reducible refine V.needI ?_ ?_ | intro _)
  all_goals first
    | (first | rfl | exact True.intro | exact ⟨u8_0, by decide⟩ | exact ⟨(1, 0, fun _ => 0), Nat.le_refl _⟩ | exact ⟨Nat.le_refl _, by assumption⟩ | exact Nat.zero_le _ | exact ⟨Nat.zero_le _, Nat.zero_le _⟩ | exact ⟨(_, _), is_cl _, Nat.le_refl _⟩ | exact err9 (by unfold okN; simp only [Int.ofNat_eq_natCast]; omega) rfl rfl rfl | decide)
    | omega
    | (rename_i h; exact absurd h (by decide))
    | (rename_i h; subst h; rfl)
    | (refine ⟨fun e he => ?_, by decide⟩
       match e, he with
       | 0, _ | 1, _ | 2, _ | 3, _ => exact ⟨by decide, by decide⟩)
    | trace_state
theorem aw19_ok : ContractOK P 64 conYes := conYes_ok (local_of_ps conWL_ok fun _ => vhAw19)
end Go.Proofs.Ytomaagmleafjeaa.Md
