/- Config of the statements: the conditions, printed by program. -/
import Derived.Test.YtdnagdckpkflhaaMNwAge
import Derived.Test.YtdnagdckpkflhaaMW
import Derived.Test.YtdnagdckpkflhaaMNw
set_option linter.unusedVariables false
set_option linter.unusedSimpArgs false
set_option linter.unusedVariables false
set_option maxRecDepth 100000
namespace Go.Proofs.Ytdnagdckpkflhaa.Vc
open Go Go.RowKit Sx Cn Dc Ck

theorem verOnly0_eq (s l o : Int) : verOnly 0 s l o =
  V.need ((U8 0 fun (x : Nat) => Int.ofNat 0) ∧ 0 ≤ 9)
    (V.need (∃ (x : Nat × Nat × (Nat → Nat)), 1 ≤ x.fst)
    (V.any (Nat × Nat × (Nat → Nat)) (fun (x : Nat × Nat × (Nat → Nat)) => 1 ≤ x.fst) fun (x : Nat × Nat × (Nat → Nat)) => nN [(1, .neI 4 0)]
    (V.br (decide (IntKind.i64.wrap (l.tmod (Int.ofNat 4)) = Int.ofNat 0))
    (nN [(1, .eqI 1 1), (1, .eqI 4 4), (1, .eqI 1 1), (2, .eqI 4 4), (4, .eqI 1 1), (1, .eq 1 1), (1, .pf (x.fst = x.fst) rfl), (1, .eq 0 0), (1, .pf (x.snd.fst = x.snd.fst) rfl), (1, .le 1 1)]
    (V.need (1 ≤ 1 ∧ 1 ≤ x.fst)
    (V.need (∀ (i e : Nat), i = 0 ∧ e < 1 → e = e)
    (V.need (∀ (i e : Nat), i = 0 ∧ e < 1 → 0 = 0)
    (V.need (∀ (i e : Nat), i = 0 ∧ e < 1 → x.snd.snd e = x.snd.snd e)
    (nN [(1, .le 1 1)]
    (V.need (0 ≤ 0 ∧ 0 ≤ x.snd.fst)
    (V.need (∀ (i e : Nat), i = 0 ∧ e < 0 → uP (fun (x : Nat) => Int.ofNat 0) 0 e = uP (fun (x : Nat) => Int.ofNat 0) 0 e)
    (V.need (∀ (i e : Nat), i = 0 ∧ e < 0 → uL (fun (x : Nat) => Int.ofNat 0) 0 e = uL (fun (x : Nat) => Int.ofNat 0) 0 e)
    (V.need (∀ (i e : Nat), i = 0 ∧ e < 0 → uD (fun (x : Nat) => Int.ofNat 0) 0 e = uD (fun (x : Nat) => Int.ofNat 0) 0 e)
    (V.need (∀ (i : Nat), i < 1 → 0 ≤ gd 1 (fun (x : Nat) => 0) i ∧ 0 ≤ gd 1 (fun (e : Nat) => x.snd.snd e) i)
    (V.need (∀ (i e : Nat), i < 1 ∧ e < 0 → cO (fun (x : Nat) => Int.ofNat 0) 0 i e = cO (fun (x : Nat) => Int.ofNat 0) 0 i e)
    (V.need (∀ (i e : Nat), i < 1 ∧ e < 0 → cA (fun (x : Nat) => Int.ofNat 0) 0 i e = cA (fun (x : Nat) => Int.ofNat 0) 0 i e)
    (V.need (∀ (i e : Nat), i < 1 ∧ e < 0 → cB (fun (x : Nat) => Int.ofNat 0) 0 i e = cB (fun (x : Nat) => Int.ofNat 0) 0 i e)
    (V.need (errE (Cf.mk (Int.ofNat 1) (Int.ofNat 4) (Int.ofNat 1) (Int.ofNat 4) (Int.ofNat 4) (Int.ofNat 1) (Int.ofNat 1) (Int.ofNat 1) (Int.ofNat 1) 1 x.fst 0 x.snd.fst (fun (e : Nat) => 0) (fun (e : Nat) => x.snd.snd e) (fun (i e : Nat) => cO (fun (x : Nat) => Int.ofNat 0) 0 i e) (fun (i e : Nat) => cA (fun (x : Nat) => Int.ofNat 0) 0 i e) (fun (i e : Nat) => cB (fun (x : Nat) => Int.ofNat 0) 0 i e) (fun (e : Nat) => uP (fun (x : Nat) => Int.ofNat 0) 0 e) (fun (e : Nat) => uL (fun (x : Nat) => Int.ofNat 0) 0 e) fun (e : Nat) => uD (fun (x : Nat) => Int.ofNat 0) 0 e) = Int.ofNat 0)
    (V.need (∃ (x_1 : Cf × Nat), IsCl (Cf.mk (Int.ofNat 1) (Int.ofNat 4) (Int.ofNat 1) (Int.ofNat 4) (Int.ofNat 4) (Int.ofNat 1) (Int.ofNat 1) (Int.ofNat 1) (Int.ofNat 1) 1 x.fst 0 x.snd.fst (fun (e : Nat) => 0) (fun (e : Nat) => x.snd.snd e) (fun (i e : Nat) => cO (fun (x : Nat) => Int.ofNat 0) 0 i e) (fun (i e : Nat) => cA (fun (x : Nat) => Int.ofNat 0) 0 i e) (fun (i e : Nat) => cB (fun (x : Nat) => Int.ofNat 0) 0 i e) (fun (e : Nat) => uP (fun (x : Nat) => Int.ofNat 0) 0 e) (fun (e : Nat) => uL (fun (x : Nat) => Int.ofNat 0) 0 e) fun (e : Nat) => uD (fun (x : Nat) => Int.ofNat 0) 0 e) x_1.fst ∧ (Int.ofNat 4).toNat ≤ x_1.snd)
    (V.any (Cf × Nat) (fun (x_1 : Cf × Nat) => IsCl (Cf.mk (Int.ofNat 1) (Int.ofNat 4) (Int.ofNat 1) (Int.ofNat 4) (Int.ofNat 4) (Int.ofNat 1) (Int.ofNat 1) (Int.ofNat 1) (Int.ofNat 1) 1 x.fst 0 x.snd.fst (fun (e : Nat) => 0) (fun (e : Nat) => x.snd.snd e) (fun (i e : Nat) => cO (fun (x : Nat) => Int.ofNat 0) 0 i e) (fun (i e : Nat) => cA (fun (x : Nat) => Int.ofNat 0) 0 i e) (fun (i e : Nat) => cB (fun (x : Nat) => Int.ofNat 0) 0 i e) (fun (e : Nat) => uP (fun (x : Nat) => Int.ofNat 0) 0 e) (fun (e : Nat) => uL (fun (x : Nat) => Int.ofNat 0) 0 e) fun (e : Nat) => uD (fun (x : Nat) => Int.ofNat 0) 0 e) x_1.fst ∧ (Int.ofNat 4).toNat ≤ x_1.snd) fun (x : Cf × Nat) => nN [(33, .lt2 0 1 0 1), (1, .eqI 42 42), (1, .eqI 1 1), (5, .eqI 0 0), (1, .eq 52 52), (1, .le 52 52), (33, .lt2 0 1 0 1), (1, .eqI 43 43), (1, .eqI 0 0), (1, .eqI 2 2), (1, .eqI 42 42), (1, .eqI 0 0), (2, .eqI 1 1), (1, .eq 52 52), (1, .le 52 52), (33, .lt2 0 1 0 1), (1, .eqI 46 46), (1, .eqI 0 0), (1, .eqI 2 2), (1, .eqI 43 43), (2, .eqI 0 0), (1, .eqI 2 2), (1, .eq 52 52), (1, .le 52 52)]
    (V.need True
    (nN [(33, .lt2 0 1 0 1), (1, .eqI 42 42), (1, .pf (IntKind.u64.wrap s = IntKind.u64.wrap s) rfl), (1, .eqI 2 2), (1, .eqI 46 46), (2, .eqI 0 0), (1, .eqI 3 3), (1, .eq 52 52), (1, .le 52 52), (33, .lt2 0 1 0 1), (1, .eqI 38 38), (1, .pf (IntKind.u64.wrap o = IntKind.u64.wrap o) rfl), (1, .eqI 2 2), (1, .eqI 42 42), (1, .eqI 1 1), (1, .pf (IntKind.u64.wrap s = IntKind.u64.wrap s) rfl), (1, .eqI 4 4), (1, .eq 52 52), (1, .le 52 52), (1, .pf (IntKind.u64.wrap s = IntKind.u64.wrap s) rfl), (33, .lt2 0 1 0 1), (1, .eqI 42 42), (1, .eqI 2 2), (1, .eqI 38 38), (1, .eqI 0 0), (1, .pf (IntKind.u64.wrap o = IntKind.u64.wrap o) rfl), (1, .eqI 5 5), (1, .eq 52 52), (1, .le 52 52), (1, .pf (IntKind.u64.wrap o = IntKind.u64.wrap o) rfl), (1, .pf (IntKind.u64.wrap s = IntKind.u64.wrap s) rfl)]
    (V.br (IntKind.u64.wrap s != Int.ofNat 1)
    (nN [(39, .lt2 0 1 0 1), (2, .lt 38 52)]
    (V.br (IntKind.u64.wrap o != IntKind.u64.wrap o)
    (V.bad 420)
    (nN [(33, .lt2 0 1 0 1), (2, .lt 42 52)]
    (V.br (IntKind.u64.wrap s != IntKind.u64.wrap s)
    (V.bad 420)
    (nN [(33, .lt2 0 1 0 1), (2, .lt 37 52)]
    (V.br (s == Int.ofNat 1) V.ok
    (nN [(33, .lt2 0 1 0 1), (2, .lt 43 52), (1, .neI 4 0)]
    (V.br (Int.ofNat 0 == IntKind.u64.wrap (l.tmod (Int.ofNat 4)))
    (nN [(3, .lt2 0 1 0 1)] V.ok)
    (V.bad 420)))))))))
    (nN [(19, .lt2 0 1 0 1), (1, .eqI 46 46), (1, .eqI 1 1), (1, .eqI 42 42), (2, .pf (IntKind.u64.wrap s = IntKind.u64.wrap s) rfl), (1, .eqI 6 6), (1, .eq 52 52), (1, .le 52 52), (1, .pf (IntKind.u64.wrap o = IntKind.u64.wrap o) rfl), (1, .pf (IntKind.u64.wrap s = IntKind.u64.wrap s) rfl), (29, .lt2 0 1 0 1), (1, .eqI 43 43), (1, .eqI 1 1), (1, .eqI 46 46), (2, .eqI 0 0), (1, .eqI 7 7), (1, .eq 52 52), (1, .le 52 52), (1, .pf (IntKind.u64.wrap o = IntKind.u64.wrap o) rfl), (1, .pf (IntKind.u64.wrap s = IntKind.u64.wrap s) rfl), (34, .lt2 0 1 0 1), (1, .eqI 43 43), (1, .eqI 0 0), (2, .eqI 1 1), (1, .eqI 43 43), (2, .eqI 0 0), (1, .eqI 8 8), (1, .eq 52 52), (1, .le 52 52), (1, .pf (IntKind.u64.wrap o = IntKind.u64.wrap o) rfl), (1, .pf (IntKind.u64.wrap s = IntKind.u64.wrap s) rfl)]
    (V.need (numAt [SC.ki IntKind.u64 (Int.ofNat 0), SC.ki IntKind.u64 (Int.ofNat 0), SC.ki IntKind.u64 (Int.ofNat 0), SC.ki IntKind.u64 (Int.ofNat 0), SC.ki IntKind.u64 (Int.ofNat 0), SC.ki IntKind.u64 (Int.ofNat 0), SC.ki IntKind.u64 (Int.ofNat 0), SC.ki IntKind.u64 (Int.ofNat 0), SC.ki IntKind.u64 (Int.ofNat 0), SC.ki IntKind.u64 (Int.ofNat 0), SC.ki IntKind.u64 (Int.ofNat 0), SC.ki IntKind.u64 (Int.ofNat 0), SC.ki IntKind.u64 (Int.ofNat 0), SC.ki IntKind.u64 (Int.ofNat 0), SC.ki IntKind.u64 (Int.ofNat 0), SC.ki IntKind.u64 (Int.ofNat 0), SC.ki IntKind.u64 (Int.ofNat 0), SC.ki IntKind.u64 (Int.ofNat 0), SC.ki IntKind.u64 (Int.ofNat 0), SC.ki IntKind.u64 (Int.ofNat 0), SC.ki IntKind.u64 (Int.ofNat 0), SC.ki IntKind.u64 (Int.ofNat 0), SC.ki IntKind.u64 (Int.ofNat 0), SC.ki IntKind.u64 (Int.ofNat 0), SC.ki IntKind.u64 (Int.ofNat 0), SC.ki IntKind.u64 (Int.ofNat 0), SC.ki IntKind.u64 (Int.ofNat 0), SC.ki IntKind.u64 (Int.ofNat 0), SC.ki IntKind.u64 (Int.ofNat 0), SC.ki IntKind.u64 (Int.ofNat 0), SC.ki IntKind.u64 (Int.ofNat 0), SC.ki IntKind.u64 (Int.ofNat 0), SC.ki IntKind.u64 (Int.ofNat 0), SC.ki IntKind.u64 (Int.ofNat 0), SC.ki IntKind.u64 (Int.ofNat 0), SC.ki IntKind.u64 (Int.ofNat 0), SC.ki IntKind.u64 (Int.ofNat 0), SC.ki IntKind.u64 (Int.ofNat 0), SC.iv IntKind.u64 (IntKind.u64.wrap o), SC.ki IntKind.u64 (Int.ofNat 0), SC.ki IntKind.u64 (Int.ofNat 0), SC.ki IntKind.u64 (Int.ofNat 0), SC.iv IntKind.u64 (IntKind.u64.wrap s), SC.ki IntKind.u64 (Int.ofNat 0), SC.ki IntKind.u64 (Int.ofNat 0), SC.ki IntKind.u64 (Int.ofNat 0), SC.ki IntKind.u64 (Int.ofNat 0), SC.ki IntKind.u64 (Int.ofNat 0), SC.ki IntKind.u64 (Int.ofNat 0), SC.ki IntKind.u64 (Int.ofNat 0), SC.ki IntKind.u64 (Int.ofNat 0), SC.ki IntKind.u64 (Int.ofNat 0)] 43 = Int.ofNat 0)
    (nN [(22, .lt2 0 1 0 1)]
    (V.need (0 + 1 ≤ 9223372036854775807 ∧ (0 + 1) * 40 ≤ 140737488355328)
    (V.any Nat (fun (x : Nat) => 0 + 1 ≤ x) fun (x : Nat) => nN [(27, .lt2 0 1 0 1), (1, .eqI 46 46), (1, .eqI 9 9), (1, .eqI 3 3), (1, .eqI 43 43), (1, .eqI 0 0), (1, .eqI 1 1), (1, .eqI 9 9), (1, .eq 52 52), (1, .le 52 52), (1, .pf (IntKind.u64.wrap o = IntKind.u64.wrap o) rfl), (1, .pf (IntKind.u64.wrap s = IntKind.u64.wrap s) rfl), (42, .lt2 0 1 0 1), (1, .eqI 15 15), (1, .eqI 2 2), (1, .eqI 46 46), (1, .eqI 0 0), (1, .eqI 9 9), (1, .eqI 10 10), (1, .eq 52 52), (1, .le 52 52), (1, .pf (IntKind.u64.wrap o = IntKind.u64.wrap o) rfl), (1, .pf (IntKind.u64.wrap s = IntKind.u64.wrap s) rfl), (9, .lt2 0 1 0 1), (1, .eqI 14 14), (1, .eqI 1 1), (1, .eqI 15 15), (2, .eqI 0 0), (1, .eqI 11 11), (1, .eq 52 52), (1, .le 52 52), (1, .pf (IntKind.u64.wrap o = IntKind.u64.wrap o) rfl), (1, .pf (IntKind.u64.wrap s = IntKind.u64.wrap s) rfl), (23, .lt2 0 1 0 1), (1, .neI 4 0), (3, .lt2 0 1 0 1), (1, .eqI 16 16), (1, .eqI 2 2), (1, .eqI 1 1), (1, .eqI 14 14), (2, .eqI 0 0), (1, .eqI 12 12), (1, .eq 52 52), (1, .le 52 52), (1, .pf (IntKind.u64.wrap o = IntKind.u64.wrap o) rfl), (1, .pf (IntKind.u64.wrap s = IntKind.u64.wrap s) rfl), (10, .lt2 0 1 0 1), (1, .eqI 15 15), (1, .eqI 1 1), (1, .eqI 2 2), (1, .eqI 16 16), (1, .eqI 0 0), (1, .eqI 2 2), (1, .eqI 13 13), (1, .eq 52 52), (1, .le 52 52), (1, .pf (IntKind.u64.wrap o = IntKind.u64.wrap o) rfl), (1, .pf (IntKind.u64.wrap s = IntKind.u64.wrap s) rfl), (38, .lt2 0 1 0 1), (1, .leI 0 1), (1, .eqI 7 7), (2, .eqI 2 2), (1, .eqI 15 15), (1, .eqI 0 0), (1, .eqI 1 1), (1, .eqI 14 14), (1, .eq 52 52), (1, .le 52 52), (1, .pf (IntKind.u64.wrap o = IntKind.u64.wrap o) rfl), (1, .pf (IntKind.u64.wrap s = IntKind.u64.wrap s) rfl), (51, .lt2 0 1 0 1), (2, .lt 38 52)]
    (V.br (IntKind.u64.wrap o != IntKind.u64.wrap o)
    (V.bad 420)
    (nN [(33, .lt2 0 1 0 1), (2, .lt 42 52)]
    (V.br (IntKind.u64.wrap s != IntKind.u64.wrap s)
    (V.bad 420)
    (nN [(33, .lt2 0 1 0 1), (2, .lt 37 52)]
    (V.br (s == Int.ofNat 1) V.ok
    (nN [(33, .lt2 0 1 0 1), (2, .lt 43 52), (1, .neI 4 0)]
    (V.br (Int.ofNat 1 == IntKind.u64.wrap (l.tmod (Int.ofNat 4)))
    (nN [(3, .lt2 0 1 0 1)]
    (V.bad 420))
    (V.bad 420)))))))))))))))))))))))))))))))))
    (V.bad 490)))) := by kernel_rfl

theorem verOnly1_eq (s l o : Int) : verOnly 1 s l o =
  V.need ((U8 0 fun (x : Nat) => Int.ofNat 0) ∧ 0 ≤ 9)
    (V.need (∃ (x : Nat × Nat × (Nat → Nat)), 1 ≤ x.fst)
    (V.any (Nat × Nat × (Nat → Nat)) (fun (x : Nat × Nat × (Nat → Nat)) => 1 ≤ x.fst) fun (x : Nat × Nat × (Nat → Nat)) => nN [(1, .neI 4 0)]
    (V.br (decide (IntKind.i64.wrap (l.tmod (Int.ofNat 4)) = Int.ofNat 1))
    (nN [(1, .eqI 1 1), (1, .eqI 4 4), (1, .eqI 1 1), (2, .eqI 4 4), (4, .eqI 1 1), (1, .eq 1 1), (1, .pf (x.fst = x.fst) rfl), (1, .eq 0 0), (1, .pf (x.snd.fst = x.snd.fst) rfl), (1, .le 1 1)]
    (V.need (1 ≤ 1 ∧ 1 ≤ x.fst)
    (V.need (∀ (i e : Nat), i = 0 ∧ e < 1 → e = e)
    (V.need (∀ (i e : Nat), i = 0 ∧ e < 1 → 0 = 0)
    (V.need (∀ (i e : Nat), i = 0 ∧ e < 1 → x.snd.snd e = x.snd.snd e)
    (nN [(1, .le 1 1)]
    (V.need (0 ≤ 0 ∧ 0 ≤ x.snd.fst)
    (V.need (∀ (i e : Nat), i = 0 ∧ e < 0 → uP (fun (x : Nat) => Int.ofNat 0) 0 e = uP (fun (x : Nat) => Int.ofNat 0) 0 e)
    (V.need (∀ (i e : Nat), i = 0 ∧ e < 0 → uL (fun (x : Nat) => Int.ofNat 0) 0 e = uL (fun (x : Nat) => Int.ofNat 0) 0 e)
    (V.need (∀ (i e : Nat), i = 0 ∧ e < 0 → uD (fun (x : Nat) => Int.ofNat 0) 0 e = uD (fun (x : Nat) => Int.ofNat 0) 0 e)
    (V.need (∀ (i : Nat), i < 1 → 0 ≤ gd 1 (fun (x : Nat) => 0) i ∧ 0 ≤ gd 1 (fun (e : Nat) => x.snd.snd e) i)
    (V.need (∀ (i e : Nat), i < 1 ∧ e < 0 → cO (fun (x : Nat) => Int.ofNat 0) 0 i e = cO (fun (x : Nat) => Int.ofNat 0) 0 i e)
    (V.need (∀ (i e : Nat), i < 1 ∧ e < 0 → cA (fun (x : Nat) => Int.ofNat 0) 0 i e = cA (fun (x : Nat) => Int.ofNat 0) 0 i e)
    (V.need (∀ (i e : Nat), i < 1 ∧ e < 0 → cB (fun (x : Nat) => Int.ofNat 0) 0 i e = cB (fun (x : Nat) => Int.ofNat 0) 0 i e)
    (V.need (errE (Cf.mk (Int.ofNat 1) (Int.ofNat 4) (Int.ofNat 1) (Int.ofNat 4) (Int.ofNat 4) (Int.ofNat 1) (Int.ofNat 1) (Int.ofNat 1) (Int.ofNat 1) 1 x.fst 0 x.snd.fst (fun (e : Nat) => 0) (fun (e : Nat) => x.snd.snd e) (fun (i e : Nat) => cO (fun (x : Nat) => Int.ofNat 0) 0 i e) (fun (i e : Nat) => cA (fun (x : Nat) => Int.ofNat 0) 0 i e) (fun (i e : Nat) => cB (fun (x : Nat) => Int.ofNat 0) 0 i e) (fun (e : Nat) => uP (fun (x : Nat) => Int.ofNat 0) 0 e) (fun (e : Nat) => uL (fun (x : Nat) => Int.ofNat 0) 0 e) fun (e : Nat) => uD (fun (x : Nat) => Int.ofNat 0) 0 e) = Int.ofNat 0)
    (V.need (∃ (x_1 : Cf × Nat), IsCl (Cf.mk (Int.ofNat 1) (Int.ofNat 4) (Int.ofNat 1) (Int.ofNat 4) (Int.ofNat 4) (Int.ofNat 1) (Int.ofNat 1) (Int.ofNat 1) (Int.ofNat 1) 1 x.fst 0 x.snd.fst (fun (e : Nat) => 0) (fun (e : Nat) => x.snd.snd e) (fun (i e : Nat) => cO (fun (x : Nat) => Int.ofNat 0) 0 i e) (fun (i e : Nat) => cA (fun (x : Nat) => Int.ofNat 0) 0 i e) (fun (i e : Nat) => cB (fun (x : Nat) => Int.ofNat 0) 0 i e) (fun (e : Nat) => uP (fun (x : Nat) => Int.ofNat 0) 0 e) (fun (e : Nat) => uL (fun (x : Nat) => Int.ofNat 0) 0 e) fun (e : Nat) => uD (fun (x : Nat) => Int.ofNat 0) 0 e) x_1.fst ∧ (Int.ofNat 4).toNat ≤ x_1.snd)
    (V.any (Cf × Nat) (fun (x_1 : Cf × Nat) => IsCl (Cf.mk (Int.ofNat 1) (Int.ofNat 4) (Int.ofNat 1) (Int.ofNat 4) (Int.ofNat 4) (Int.ofNat 1) (Int.ofNat 1) (Int.ofNat 1) (Int.ofNat 1) 1 x.fst 0 x.snd.fst (fun (e : Nat) => 0) (fun (e : Nat) => x.snd.snd e) (fun (i e : Nat) => cO (fun (x : Nat) => Int.ofNat 0) 0 i e) (fun (i e : Nat) => cA (fun (x : Nat) => Int.ofNat 0) 0 i e) (fun (i e : Nat) => cB (fun (x : Nat) => Int.ofNat 0) 0 i e) (fun (e : Nat) => uP (fun (x : Nat) => Int.ofNat 0) 0 e) (fun (e : Nat) => uL (fun (x : Nat) => Int.ofNat 0) 0 e) fun (e : Nat) => uD (fun (x : Nat) => Int.ofNat 0) 0 e) x_1.fst ∧ (Int.ofNat 4).toNat ≤ x_1.snd) fun (x : Cf × Nat) => nN [(33, .lt2 0 1 0 1), (1, .eqI 42 42), (1, .eqI 1 1), (5, .eqI 0 0), (1, .eq 52 52), (1, .le 52 52), (33, .lt2 0 1 0 1), (1, .eqI 43 43), (1, .eqI 1 1), (1, .eqI 2 2), (1, .eqI 42 42), (1, .eqI 0 0), (2, .eqI 1 1), (1, .eq 52 52), (1, .le 52 52), (33, .lt2 0 1 0 1), (1, .eqI 46 46), (1, .eqI 0 0), (1, .eqI 2 2), (1, .eqI 43 43), (1, .eqI 0 0), (1, .eqI 1 1), (1, .eqI 2 2), (1, .eq 52 52), (1, .le 52 52)]
    (V.need True
    (nN [(33, .lt2 0 1 0 1), (1, .eqI 42 42), (1, .pf (IntKind.u64.wrap s = IntKind.u64.wrap s) rfl), (1, .eqI 2 2), (1, .eqI 46 46), (2, .eqI 0 0), (1, .eqI 3 3), (1, .eq 52 52), (1, .le 52 52), (33, .lt2 0 1 0 1), (1, .eqI 38 38), (1, .pf (IntKind.u64.wrap o = IntKind.u64.wrap o) rfl), (1, .eqI 2 2), (1, .eqI 42 42), (1, .eqI 1 1), (1, .pf (IntKind.u64.wrap s = IntKind.u64.wrap s) rfl), (1, .eqI 4 4), (1, .eq 52 52), (1, .le 52 52), (1, .pf (IntKind.u64.wrap s = IntKind.u64.wrap s) rfl), (33, .lt2 0 1 0 1), (1, .eqI 42 42), (1, .eqI 2 2), (1, .eqI 38 38), (1, .eqI 0 0), (1, .pf (IntKind.u64.wrap o = IntKind.u64.wrap o) rfl), (1, .eqI 5 5), (1, .eq 52 52), (1, .le 52 52), (1, .pf (IntKind.u64.wrap o = IntKind.u64.wrap o) rfl), (1, .pf (IntKind.u64.wrap s = IntKind.u64.wrap s) rfl)]
    (V.br (IntKind.u64.wrap s != Int.ofNat 1)
    (nN [(39, .lt2 0 1 0 1), (2, .lt 38 52)]
    (V.br (IntKind.u64.wrap o != IntKind.u64.wrap o)
    (V.bad 420)
    (nN [(33, .lt2 0 1 0 1), (2, .lt 42 52)]
    (V.br (IntKind.u64.wrap s != IntKind.u64.wrap s)
    (V.bad 420)
    (nN [(33, .lt2 0 1 0 1), (2, .lt 37 52)]
    (V.br (s == Int.ofNat 1) V.ok
    (nN [(33, .lt2 0 1 0 1), (2, .lt 43 52), (1, .neI 4 0)]
    (V.br (Int.ofNat 1 == IntKind.u64.wrap (l.tmod (Int.ofNat 4)))
    (nN [(3, .lt2 0 1 0 1)] V.ok)
    (V.bad 420)))))))))
    (nN [(19, .lt2 0 1 0 1), (1, .eqI 46 46), (1, .eqI 1 1), (1, .eqI 42 42), (2, .pf (IntKind.u64.wrap s = IntKind.u64.wrap s) rfl), (1, .eqI 6 6), (1, .eq 52 52), (1, .le 52 52), (1, .pf (IntKind.u64.wrap o = IntKind.u64.wrap o) rfl), (1, .pf (IntKind.u64.wrap s = IntKind.u64.wrap s) rfl), (29, .lt2 0 1 0 1), (1, .eqI 43 43), (1, .eqI 1 1), (1, .eqI 46 46), (2, .eqI 0 0), (1, .eqI 7 7), (1, .eq 52 52), (1, .le 52 52), (1, .pf (IntKind.u64.wrap o = IntKind.u64.wrap o) rfl), (1, .pf (IntKind.u64.wrap s = IntKind.u64.wrap s) rfl), (34, .lt2 0 1 0 1), (1, .eqI 43 43), (1, .eqI 1 1), (1, .eqI 2 2), (1, .eqI 1 1), (1, .eqI 43 43), (2, .eqI 1 1), (1, .eqI 8 8), (1, .eq 52 52), (1, .le 52 52), (1, .pf (IntKind.u64.wrap o = IntKind.u64.wrap o) rfl), (1, .pf (IntKind.u64.wrap s = IntKind.u64.wrap s) rfl)]
    (V.need (numAt [SC.ki IntKind.u64 (Int.ofNat 0), SC.ki IntKind.u64 (Int.ofNat 0), SC.ki IntKind.u64 (Int.ofNat 0), SC.ki IntKind.u64 (Int.ofNat 0), SC.ki IntKind.u64 (Int.ofNat 0), SC.ki IntKind.u64 (Int.ofNat 0), SC.ki IntKind.u64 (Int.ofNat 0), SC.ki IntKind.u64 (Int.ofNat 0), SC.ki IntKind.u64 (Int.ofNat 0), SC.ki IntKind.u64 (Int.ofNat 0), SC.ki IntKind.u64 (Int.ofNat 0), SC.ki IntKind.u64 (Int.ofNat 0), SC.ki IntKind.u64 (Int.ofNat 0), SC.ki IntKind.u64 (Int.ofNat 0), SC.ki IntKind.u64 (Int.ofNat 0), SC.ki IntKind.u64 (Int.ofNat 0), SC.ki IntKind.u64 (Int.ofNat 0), SC.ki IntKind.u64 (Int.ofNat 0), SC.ki IntKind.u64 (Int.ofNat 0), SC.ki IntKind.u64 (Int.ofNat 0), SC.ki IntKind.u64 (Int.ofNat 0), SC.ki IntKind.u64 (Int.ofNat 0), SC.ki IntKind.u64 (Int.ofNat 0), SC.ki IntKind.u64 (Int.ofNat 0), SC.ki IntKind.u64 (Int.ofNat 0), SC.ki IntKind.u64 (Int.ofNat 0), SC.ki IntKind.u64 (Int.ofNat 0), SC.ki IntKind.u64 (Int.ofNat 0), SC.ki IntKind.u64 (Int.ofNat 0), SC.ki IntKind.u64 (Int.ofNat 0), SC.ki IntKind.u64 (Int.ofNat 0), SC.ki IntKind.u64 (Int.ofNat 0), SC.ki IntKind.u64 (Int.ofNat 0), SC.ki IntKind.u64 (Int.ofNat 0), SC.ki IntKind.u64 (Int.ofNat 0), SC.ki IntKind.u64 (Int.ofNat 0), SC.ki IntKind.u64 (Int.ofNat 0), SC.ki IntKind.u64 (Int.ofNat 0), SC.iv IntKind.u64 (IntKind.u64.wrap o), SC.ki IntKind.u64 (Int.ofNat 0), SC.ki IntKind.u64 (Int.ofNat 0), SC.ki IntKind.u64 (Int.ofNat 0), SC.iv IntKind.u64 (IntKind.u64.wrap s), SC.ki IntKind.u64 (Int.ofNat 1), SC.ki IntKind.u64 (Int.ofNat 0), SC.ki IntKind.u64 (Int.ofNat 0), SC.ki IntKind.u64 (Int.ofNat 0), SC.ki IntKind.u64 (Int.ofNat 0), SC.ki IntKind.u64 (Int.ofNat 0), SC.ki IntKind.u64 (Int.ofNat 0), SC.ki IntKind.u64 (Int.ofNat 0), SC.ki IntKind.u64 (Int.ofNat 0)] 43 = Int.ofNat 1)
    (nN [(22, .lt2 0 1 0 1)]
    (V.need (0 + 1 ≤ 9223372036854775807 ∧ (0 + 1) * 40 ≤ 140737488355328)
    (V.any Nat (fun (x : Nat) => 0 + 1 ≤ x) fun (x : Nat) => nN [(27, .lt2 0 1 0 1), (1, .eqI 46 46), (1, .eqI 9 9), (1, .eqI 3 3), (1, .eqI 43 43), (1, .eqI 1 1), (1, .eqI 2 2), (1, .eqI 9 9), (1, .eq 52 52), (1, .le 52 52), (1, .pf (IntKind.u64.wrap o = IntKind.u64.wrap o) rfl), (1, .pf (IntKind.u64.wrap s = IntKind.u64.wrap s) rfl), (42, .lt2 0 1 0 1), (1, .eqI 21 21), (1, .eqI 2 2), (1, .eqI 46 46), (1, .eqI 0 0), (1, .eqI 9 9), (1, .eqI 10 10), (1, .eq 52 52), (1, .le 52 52), (1, .pf (IntKind.u64.wrap o = IntKind.u64.wrap o) rfl), (1, .pf (IntKind.u64.wrap s = IntKind.u64.wrap s) rfl), (9, .lt2 0 1 0 1), (1, .eqI 20 20), (1, .eqI 1 1), (1, .eqI 21 21), (2, .eqI 0 0), (1, .eqI 11 11), (1, .eq 52 52), (1, .le 52 52), (1, .pf (IntKind.u64.wrap o = IntKind.u64.wrap o) rfl), (1, .pf (IntKind.u64.wrap s = IntKind.u64.wrap s) rfl), (23, .lt2 0 1 0 1), (1, .neI 4 0), (3, .lt2 0 1 0 1), (1, .eqI 22 22), (1, .eqI 2 2), (1, .eqI 1 1), (1, .eqI 20 20), (2, .eqI 0 0), (1, .eqI 12 12), (1, .eq 52 52), (1, .le 52 52), (1, .pf (IntKind.u64.wrap o = IntKind.u64.wrap o) rfl), (1, .pf (IntKind.u64.wrap s = IntKind.u64.wrap s) rfl), (10, .lt2 0 1 0 1), (1, .eqI 21 21), (1, .eqI 1 1), (1, .eqI 2 2), (1, .eqI 22 22), (1, .eqI 0 0), (1, .eqI 2 2), (1, .eqI 13 13), (1, .eq 52 52), (1, .le 52 52), (1, .pf (IntKind.u64.wrap o = IntKind.u64.wrap o) rfl), (1, .pf (IntKind.u64.wrap s = IntKind.u64.wrap s) rfl), (38, .lt2 0 1 0 1), (1, .leI 0 2), (1, .eqI 7 7), (1, .eqI 4 4), (1, .eqI 2 2), (1, .eqI 21 21), (1, .eqI 0 0), (1, .eqI 1 1), (1, .eqI 14 14), (1, .eq 52 52), (1, .le 52 52), (1, .pf (IntKind.u64.wrap o = IntKind.u64.wrap o) rfl), (1, .pf (IntKind.u64.wrap s = IntKind.u64.wrap s) rfl), (51, .lt2 0 1 0 1), (2, .lt 38 52)]
    (V.br (IntKind.u64.wrap o != IntKind.u64.wrap o)
    (V.bad 420)
    (nN [(33, .lt2 0 1 0 1), (2, .lt 42 52)]
    (V.br (IntKind.u64.wrap s != IntKind.u64.wrap s)
    (V.bad 420)
    (nN [(33, .lt2 0 1 0 1), (2, .lt 37 52)]
    (V.br (s == Int.ofNat 1) V.ok
    (nN [(33, .lt2 0 1 0 1), (2, .lt 43 52), (1, .neI 4 0)]
    (V.br (Int.ofNat 2 == IntKind.u64.wrap (l.tmod (Int.ofNat 4)))
    (nN [(3, .lt2 0 1 0 1)]
    (V.bad 420))
    (V.bad 420)))))))))))))))))))))))))))))))))
    (V.bad 490)))) := by kernel_rfl

theorem verOnly2_eq (s l o : Int) : verOnly 2 s l o =
  V.need ((U8 0 fun (x : Nat) => Int.ofNat 0) ∧ 0 ≤ 9)
    (V.need (∃ (x : Nat × Nat × (Nat → Nat)), 1 ≤ x.fst)
    (V.any (Nat × Nat × (Nat → Nat)) (fun (x : Nat × Nat × (Nat → Nat)) => 1 ≤ x.fst) fun (x : Nat × Nat × (Nat → Nat)) => nN [(1, .neI 4 0)]
    (V.br (decide (IntKind.i64.wrap (l.tmod (Int.ofNat 4)) = Int.ofNat 2))
    (nN [(1, .eqI 1 1), (1, .eqI 4 4), (1, .eqI 1 1), (2, .eqI 4 4), (4, .eqI 1 1), (1, .eq 1 1), (1, .pf (x.fst = x.fst) rfl), (1, .eq 0 0), (1, .pf (x.snd.fst = x.snd.fst) rfl), (1, .le 1 1)]
    (V.need (1 ≤ 1 ∧ 1 ≤ x.fst)
    (V.need (∀ (i e : Nat), i = 0 ∧ e < 1 → e = e)
    (V.need (∀ (i e : Nat), i = 0 ∧ e < 1 → 0 = 0)
    (V.need (∀ (i e : Nat), i = 0 ∧ e < 1 → x.snd.snd e = x.snd.snd e)
    (nN [(1, .le 1 1)]
    (V.need (0 ≤ 0 ∧ 0 ≤ x.snd.fst)
    (V.need (∀ (i e : Nat), i = 0 ∧ e < 0 → uP (fun (x : Nat) => Int.ofNat 0) 0 e = uP (fun (x : Nat) => Int.ofNat 0) 0 e)
    (V.need (∀ (i e : Nat), i = 0 ∧ e < 0 → uL (fun (x : Nat) => Int.ofNat 0) 0 e = uL (fun (x : Nat) => Int.ofNat 0) 0 e)
    (V.need (∀ (i e : Nat), i = 0 ∧ e < 0 → uD (fun (x : Nat) => Int.ofNat 0) 0 e = uD (fun (x : Nat) => Int.ofNat 0) 0 e)
    (V.need (∀ (i : Nat), i < 1 → 0 ≤ gd 1 (fun (x : Nat) => 0) i ∧ 0 ≤ gd 1 (fun (e : Nat) => x.snd.snd e) i)
    (V.need (∀ (i e : Nat), i < 1 ∧ e < 0 → cO (fun (x : Nat) => Int.ofNat 0) 0 i e = cO (fun (x : Nat) => Int.ofNat 0) 0 i e)
    (V.need (∀ (i e : Nat), i < 1 ∧ e < 0 → cA (fun (x : Nat) => Int.ofNat 0) 0 i e = cA (fun (x : Nat) => Int.ofNat 0) 0 i e)
    (V.need (∀ (i e : Nat), i < 1 ∧ e < 0 → cB (fun (x : Nat) => Int.ofNat 0) 0 i e = cB (fun (x : Nat) => Int.ofNat 0) 0 i e)
    (V.need (errE (Cf.mk (Int.ofNat 1) (Int.ofNat 4) (Int.ofNat 1) (Int.ofNat 4) (Int.ofNat 4) (Int.ofNat 1) (Int.ofNat 1) (Int.ofNat 1) (Int.ofNat 1) 1 x.fst 0 x.snd.fst (fun (e : Nat) => 0) (fun (e : Nat) => x.snd.snd e) (fun (i e : Nat) => cO (fun (x : Nat) => Int.ofNat 0) 0 i e) (fun (i e : Nat) => cA (fun (x : Nat) => Int.ofNat 0) 0 i e) (fun (i e : Nat) => cB (fun (x : Nat) => Int.ofNat 0) 0 i e) (fun (e : Nat) => uP (fun (x : Nat) => Int.ofNat 0) 0 e) (fun (e : Nat) => uL (fun (x : Nat) => Int.ofNat 0) 0 e) fun (e : Nat) => uD (fun (x : Nat) => Int.ofNat 0) 0 e) = Int.ofNat 0)
    (V.need (∃ (x_1 : Cf × Nat), IsCl (Cf.mk (Int.ofNat 1) (Int.ofNat 4) (Int.ofNat 1) (Int.ofNat 4) (Int.ofNat 4) (Int.ofNat 1) (Int.ofNat 1) (Int.ofNat 1) (Int.ofNat 1) 1 x.fst 0 x.snd.fst (fun (e : Nat) => 0) (fun (e : Nat) => x.snd.snd e) (fun (i e : Nat) => cO (fun (x : Nat) => Int.ofNat 0) 0 i e) (fun (i e : Nat) => cA (fun (x : Nat) => Int.ofNat 0) 0 i e) (fun (i e : Nat) => cB (fun (x : Nat) => Int.ofNat 0) 0 i e) (fun (e : Nat) => uP (fun (x : Nat) => Int.ofNat 0) 0 e) (fun (e : Nat) => uL (fun (x : Nat) => Int.ofNat 0) 0 e) fun (e : Nat) => uD (fun (x : Nat) => Int.ofNat 0) 0 e) x_1.fst ∧ (Int.ofNat 4).toNat ≤ x_1.snd)
    (V.any (Cf × Nat) (fun (x_1 : Cf × Nat) => IsCl (Cf.mk (Int.ofNat 1) (Int.ofNat 4) (Int.ofNat 1) (Int.ofNat 4) (Int.ofNat 4) (Int.ofNat 1) (Int.ofNat 1) (Int.ofNat 1) (Int.ofNat 1) 1 x.fst 0 x.snd.fst (fun (e : Nat) => 0) (fun (e : Nat) => x.snd.snd e) (fun (i e : Nat) => cO (fun (x : Nat) => Int.ofNat 0) 0 i e) (fun (i e : Nat) => cA (fun (x : Nat) => Int.ofNat 0) 0 i e) (fun (i e : Nat) => cB (fun (x : Nat) => Int.ofNat 0) 0 i e) (fun (e : Nat) => uP (fun (x : Nat) => Int.ofNat 0) 0 e) (fun (e : Nat) => uL (fun (x : Nat) => Int.ofNat 0) 0 e) fun (e : Nat) => uD (fun (x : Nat) => Int.ofNat 0) 0 e) x_1.fst ∧ (Int.ofNat 4).toNat ≤ x_1.snd) fun (x : Cf × Nat) => nN [(33, .lt2 0 1 0 1), (1, .eqI 42 42), (1, .eqI 1 1), (5, .eqI 0 0), (1, .eq 52 52), (1, .le 52 52), (33, .lt2 0 1 0 1), (1, .eqI 43 43), (2, .eqI 2 2), (1, .eqI 42 42), (1, .eqI 0 0), (2, .eqI 1 1), (1, .eq 52 52), (1, .le 52 52), (33, .lt2 0 1 0 1), (1, .eqI 46 46), (1, .eqI 0 0), (1, .eqI 2 2), (1, .eqI 43 43), (1, .eqI 0 0), (2, .eqI 2 2), (1, .eq 52 52), (1, .le 52 52)]
    (V.need True
    (nN [(33, .lt2 0 1 0 1), (1, .eqI 42 42), (1, .pf (IntKind.u64.wrap s = IntKind.u64.wrap s) rfl), (1, .eqI 2 2), (1, .eqI 46 46), (2, .eqI 0 0), (1, .eqI 3 3), (1, .eq 52 52), (1, .le 52 52), (33, .lt2 0 1 0 1), (1, .eqI 38 38), (1, .pf (IntKind.u64.wrap o = IntKind.u64.wrap o) rfl), (1, .eqI 2 2), (1, .eqI 42 42), (1, .eqI 1 1), (1, .pf (IntKind.u64.wrap s = IntKind.u64.wrap s) rfl), (1, .eqI 4 4), (1, .eq 52 52), (1, .le 52 52), (1, .pf (IntKind.u64.wrap s = IntKind.u64.wrap s) rfl), (33, .lt2 0 1 0 1), (1, .eqI 42 42), (1, .eqI 2 2), (1, .eqI 38 38), (1, .eqI 0 0), (1, .pf (IntKind.u64.wrap o = IntKind.u64.wrap o) rfl), (1, .eqI 5 5), (1, .eq 52 52), (1, .le 52 52), (1, .pf (IntKind.u64.wrap o = IntKind.u64.wrap o) rfl), (1, .pf (IntKind.u64.wrap s = IntKind.u64.wrap s) rfl)]
    (V.br (IntKind.u64.wrap s != Int.ofNat 1)
    (nN [(39, .lt2 0 1 0 1), (2, .lt 38 52)]
    (V.br (IntKind.u64.wrap o != IntKind.u64.wrap o)
    (V.bad 420)
    (nN [(33, .lt2 0 1 0 1), (2, .lt 42 52)]
    (V.br (IntKind.u64.wrap s != IntKind.u64.wrap s)
    (V.bad 420)
    (nN [(33, .lt2 0 1 0 1), (2, .lt 37 52)]
    (V.br (s == Int.ofNat 1) V.ok
    (nN [(33, .lt2 0 1 0 1), (2, .lt 43 52), (1, .neI 4 0)]
    (V.br (Int.ofNat 2 == IntKind.u64.wrap (l.tmod (Int.ofNat 4)))
    (nN [(3, .lt2 0 1 0 1)] V.ok)
    (V.bad 420)))))))))
    (nN [(19, .lt2 0 1 0 1), (1, .eqI 46 46), (1, .eqI 1 1), (1, .eqI 42 42), (2, .pf (IntKind.u64.wrap s = IntKind.u64.wrap s) rfl), (1, .eqI 6 6), (1, .eq 52 52), (1, .le 52 52), (1, .pf (IntKind.u64.wrap o = IntKind.u64.wrap o) rfl), (1, .pf (IntKind.u64.wrap s = IntKind.u64.wrap s) rfl), (29, .lt2 0 1 0 1), (1, .eqI 43 43), (1, .eqI 1 1), (1, .eqI 46 46), (2, .eqI 0 0), (1, .eqI 7 7), (1, .eq 52 52), (1, .le 52 52), (1, .pf (IntKind.u64.wrap o = IntKind.u64.wrap o) rfl), (1, .pf (IntKind.u64.wrap s = IntKind.u64.wrap s) rfl), (34, .lt2 0 1 0 1), (1, .eqI 43 43), (1, .eqI 2 2), (1, .eqI 3 3), (1, .eqI 1 1), (1, .eqI 43 43), (2, .eqI 2 2), (1, .eqI 8 8), (1, .eq 52 52), (1, .le 52 52), (1, .pf (IntKind.u64.wrap o = IntKind.u64.wrap o) rfl), (1, .pf (IntKind.u64.wrap s = IntKind.u64.wrap s) rfl)]
    (V.need (numAt [SC.ki IntKind.u64 (Int.ofNat 0), SC.ki IntKind.u64 (Int.ofNat 0), SC.ki IntKind.u64 (Int.ofNat 0), SC.ki IntKind.u64 (Int.ofNat 0), SC.ki IntKind.u64 (Int.ofNat 0), SC.ki IntKind.u64 (Int.ofNat 0), SC.ki IntKind.u64 (Int.ofNat 0), SC.ki IntKind.u64 (Int.ofNat 0), SC.ki IntKind.u64 (Int.ofNat 0), SC.ki IntKind.u64 (Int.ofNat 0), SC.ki IntKind.u64 (Int.ofNat 0), SC.ki IntKind.u64 (Int.ofNat 0), SC.ki IntKind.u64 (Int.ofNat 0), SC.ki IntKind.u64 (Int.ofNat 0), SC.ki IntKind.u64 (Int.ofNat 0), SC.ki IntKind.u64 (Int.ofNat 0), SC.ki IntKind.u64 (Int.ofNat 0), SC.ki IntKind.u64 (Int.ofNat 0), SC.ki IntKind.u64 (Int.ofNat 0), SC.ki IntKind.u64 (Int.ofNat 0), SC.ki IntKind.u64 (Int.ofNat 0), SC.ki IntKind.u64 (Int.ofNat 0), SC.ki IntKind.u64 (Int.ofNat 0), SC.ki IntKind.u64 (Int.ofNat 0), SC.ki IntKind.u64 (Int.ofNat 0), SC.ki IntKind.u64 (Int.ofNat 0), SC.ki IntKind.u64 (Int.ofNat 0), SC.ki IntKind.u64 (Int.ofNat 0), SC.ki IntKind.u64 (Int.ofNat 0), SC.ki IntKind.u64 (Int.ofNat 0), SC.ki IntKind.u64 (Int.ofNat 0), SC.ki IntKind.u64 (Int.ofNat 0), SC.ki IntKind.u64 (Int.ofNat 0), SC.ki IntKind.u64 (Int.ofNat 0), SC.ki IntKind.u64 (Int.ofNat 0), SC.ki IntKind.u64 (Int.ofNat 0), SC.ki IntKind.u64 (Int.ofNat 0), SC.ki IntKind.u64 (Int.ofNat 0), SC.iv IntKind.u64 (IntKind.u64.wrap o), SC.ki IntKind.u64 (Int.ofNat 0), SC.ki IntKind.u64 (Int.ofNat 0), SC.ki IntKind.u64 (Int.ofNat 0), SC.iv IntKind.u64 (IntKind.u64.wrap s), SC.ki IntKind.u64 (Int.ofNat 2), SC.ki IntKind.u64 (Int.ofNat 0), SC.ki IntKind.u64 (Int.ofNat 0), SC.ki IntKind.u64 (Int.ofNat 0), SC.ki IntKind.u64 (Int.ofNat 0), SC.ki IntKind.u64 (Int.ofNat 0), SC.ki IntKind.u64 (Int.ofNat 0), SC.ki IntKind.u64 (Int.ofNat 0), SC.ki IntKind.u64 (Int.ofNat 0)] 43 = Int.ofNat 2)
    (nN [(22, .lt2 0 1 0 1)]
    (V.need (0 + 1 ≤ 9223372036854775807 ∧ (0 + 1) * 40 ≤ 140737488355328)
    (V.any Nat (fun (x : Nat) => 0 + 1 ≤ x) fun (x : Nat) => nN [(27, .lt2 0 1 0 1), (1, .eqI 46 46), (1, .eqI 9 9), (1, .eqI 3 3), (1, .eqI 43 43), (1, .eqI 2 2), (1, .eqI 3 3), (1, .eqI 9 9), (1, .eq 52 52), (1, .le 52 52), (1, .pf (IntKind.u64.wrap o = IntKind.u64.wrap o) rfl), (1, .pf (IntKind.u64.wrap s = IntKind.u64.wrap s) rfl), (42, .lt2 0 1 0 1), (1, .eqI 27 27), (1, .eqI 2 2), (1, .eqI 46 46), (1, .eqI 0 0), (1, .eqI 9 9), (1, .eqI 10 10), (1, .eq 52 52), (1, .le 52 52), (1, .pf (IntKind.u64.wrap o = IntKind.u64.wrap o) rfl), (1, .pf (IntKind.u64.wrap s = IntKind.u64.wrap s) rfl), (9, .lt2 0 1 0 1), (1, .eqI 26 26), (1, .eqI 1 1), (1, .eqI 27 27), (2, .eqI 0 0), (1, .eqI 11 11), (1, .eq 52 52), (1, .le 52 52), (1, .pf (IntKind.u64.wrap o = IntKind.u64.wrap o) rfl), (1, .pf (IntKind.u64.wrap s = IntKind.u64.wrap s) rfl), (23, .lt2 0 1 0 1), (1, .neI 4 0), (3, .lt2 0 1 0 1), (1, .eqI 28 28), (1, .eqI 2 2), (1, .eqI 1 1), (1, .eqI 26 26), (2, .eqI 0 0), (1, .eqI 12 12), (1, .eq 52 52), (1, .le 52 52), (1, .pf (IntKind.u64.wrap o = IntKind.u64.wrap o) rfl), (1, .pf (IntKind.u64.wrap s = IntKind.u64.wrap s) rfl), (10, .lt2 0 1 0 1), (1, .eqI 27 27), (1, .eqI 1 1), (1, .eqI 2 2), (1, .eqI 28 28), (1, .eqI 0 0), (1, .eqI 2 2), (1, .eqI 13 13), (1, .eq 52 52), (1, .le 52 52), (1, .pf (IntKind.u64.wrap o = IntKind.u64.wrap o) rfl), (1, .pf (IntKind.u64.wrap s = IntKind.u64.wrap s) rfl), (38, .lt2 0 1 0 1), (1, .leI 0 3), (1, .eqI 7 7), (1, .eqI 8 8), (1, .eqI 2 2), (1, .eqI 27 27), (1, .eqI 0 0), (1, .eqI 1 1), (1, .eqI 14 14), (1, .eq 52 52), (1, .le 52 52), (1, .pf (IntKind.u64.wrap o = IntKind.u64.wrap o) rfl), (1, .pf (IntKind.u64.wrap s = IntKind.u64.wrap s) rfl), (51, .lt2 0 1 0 1), (2, .lt 38 52)]
    (V.br (IntKind.u64.wrap o != IntKind.u64.wrap o)
    (V.bad 420)
    (nN [(33, .lt2 0 1 0 1), (2, .lt 42 52)]
    (V.br (IntKind.u64.wrap s != IntKind.u64.wrap s)
    (V.bad 420)
    (nN [(33, .lt2 0 1 0 1), (2, .lt 37 52)]
    (V.br (s == Int.ofNat 1) V.ok
    (nN [(33, .lt2 0 1 0 1), (2, .lt 43 52), (1, .neI 4 0)]
    (V.br (Int.ofNat 3 == IntKind.u64.wrap (l.tmod (Int.ofNat 4)))
    (nN [(3, .lt2 0 1 0 1)]
    (V.bad 420))
    (V.bad 420)))))))))))))))))))))))))))))))))
    (V.bad 490)))) := by kernel_rfl

theorem verOnly3_eq (s l o : Int) : verOnly 3 s l o =
  V.need ((U8 0 fun (x : Nat) => Int.ofNat 0) ∧ 0 ≤ 9)
    (V.need (∃ (x : Nat × Nat × (Nat → Nat)), 1 ≤ x.fst)
    (V.any (Nat × Nat × (Nat → Nat)) (fun (x : Nat × Nat × (Nat → Nat)) => 1 ≤ x.fst) fun (x : Nat × Nat × (Nat → Nat)) => nN [(1, .neI 4 0)]
    (V.br (decide (IntKind.i64.wrap (l.tmod (Int.ofNat 4)) = Int.ofNat 3))
    (nN [(1, .eqI 1 1), (1, .eqI 4 4), (1, .eqI 1 1), (2, .eqI 4 4), (4, .eqI 1 1), (1, .eq 1 1), (1, .pf (x.fst = x.fst) rfl), (1, .eq 0 0), (1, .pf (x.snd.fst = x.snd.fst) rfl), (1, .le 1 1)]
    (V.need (1 ≤ 1 ∧ 1 ≤ x.fst)
    (V.need (∀ (i e : Nat), i = 0 ∧ e < 1 → e = e)
    (V.need (∀ (i e : Nat), i = 0 ∧ e < 1 → 0 = 0)
    (V.need (∀ (i e : Nat), i = 0 ∧ e < 1 → x.snd.snd e = x.snd.snd e)
    (nN [(1, .le 1 1)]
    (V.need (0 ≤ 0 ∧ 0 ≤ x.snd.fst)
    (V.need (∀ (i e : Nat), i = 0 ∧ e < 0 → uP (fun (x : Nat) => Int.ofNat 0) 0 e = uP (fun (x : Nat) => Int.ofNat 0) 0 e)
    (V.need (∀ (i e : Nat), i = 0 ∧ e < 0 → uL (fun (x : Nat) => Int.ofNat 0) 0 e = uL (fun (x : Nat) => Int.ofNat 0) 0 e)
    (V.need (∀ (i e : Nat), i = 0 ∧ e < 0 → uD (fun (x : Nat) => Int.ofNat 0) 0 e = uD (fun (x : Nat) => Int.ofNat 0) 0 e)
    (V.need (∀ (i : Nat), i < 1 → 0 ≤ gd 1 (fun (x : Nat) => 0) i ∧ 0 ≤ gd 1 (fun (e : Nat) => x.snd.snd e) i)
    (V.need (∀ (i e : Nat), i < 1 ∧ e < 0 → cO (fun (x : Nat) => Int.ofNat 0) 0 i e = cO (fun (x : Nat) => Int.ofNat 0) 0 i e)
    (V.need (∀ (i e : Nat), i < 1 ∧ e < 0 → cA (fun (x : Nat) => Int.ofNat 0) 0 i e = cA (fun (x : Nat) => Int.ofNat 0) 0 i e)
    (V.need (∀ (i e : Nat), i < 1 ∧ e < 0 → cB (fun (x : Nat) => Int.ofNat 0) 0 i e = cB (fun (x : Nat) => Int.ofNat 0) 0 i e)
    (V.need (errE (Cf.mk (Int.ofNat 1) (Int.ofNat 4) (Int.ofNat 1) (Int.ofNat 4) (Int.ofNat 4) (Int.ofNat 1) (Int.ofNat 1) (Int.ofNat 1) (Int.ofNat 1) 1 x.fst 0 x.snd.fst (fun (e : Nat) => 0) (fun (e : Nat) => x.snd.snd e) (fun (i e : Nat) => cO (fun (x : Nat) => Int.ofNat 0) 0 i e) (fun (i e : Nat) => cA (fun (x : Nat) => Int.ofNat 0) 0 i e) (fun (i e : Nat) => cB (fun (x : Nat) => Int.ofNat 0) 0 i e) (fun (e : Nat) => uP (fun (x : Nat) => Int.ofNat 0) 0 e) (fun (e : Nat) => uL (fun (x : Nat) => Int.ofNat 0) 0 e) fun (e : Nat) => uD (fun (x : Nat) => Int.ofNat 0) 0 e) = Int.ofNat 0)
    (V.need (∃ (x_1 : Cf × Nat), IsCl (Cf.mk (Int.ofNat 1) (Int.ofNat 4) (Int.ofNat 1) (Int.ofNat 4) (Int.ofNat 4) (Int.ofNat 1) (Int.ofNat 1) (Int.ofNat 1) (Int.ofNat 1) 1 x.fst 0 x.snd.fst (fun (e : Nat) => 0) (fun (e : Nat) => x.snd.snd e) (fun (i e : Nat) => cO (fun (x : Nat) => Int.ofNat 0) 0 i e) (fun (i e : Nat) => cA (fun (x : Nat) => Int.ofNat 0) 0 i e) (fun (i e : Nat) => cB (fun (x : Nat) => Int.ofNat 0) 0 i e) (fun (e : Nat) => uP (fun (x : Nat) => Int.ofNat 0) 0 e) (fun (e : Nat) => uL (fun (x : Nat) => Int.ofNat 0) 0 e) fun (e : Nat) => uD (fun (x : Nat) => Int.ofNat 0) 0 e) x_1.fst ∧ (Int.ofNat 4).toNat ≤ x_1.snd)
    (V.any (Cf × Nat) (fun (x_1 : Cf × Nat) => IsCl (Cf.mk (Int.ofNat 1) (Int.ofNat 4) (Int.ofNat 1) (Int.ofNat 4) (Int.ofNat 4) (Int.ofNat 1) (Int.ofNat 1) (Int.ofNat 1) (Int.ofNat 1) 1 x.fst 0 x.snd.fst (fun (e : Nat) => 0) (fun (e : Nat) => x.snd.snd e) (fun (i e : Nat) => cO (fun (x : Nat) => Int.ofNat 0) 0 i e) (fun (i e : Nat) => cA (fun (x : Nat) => Int.ofNat 0) 0 i e) (fun (i e : Nat) => cB (fun (x : Nat) => Int.ofNat 0) 0 i e) (fun (e : Nat) => uP (fun (x : Nat) => Int.ofNat 0) 0 e) (fun (e : Nat) => uL (fun (x : Nat) => Int.ofNat 0) 0 e) fun (e : Nat) => uD (fun (x : Nat) => Int.ofNat 0) 0 e) x_1.fst ∧ (Int.ofNat 4).toNat ≤ x_1.snd) fun (x : Cf × Nat) => nN [(33, .lt2 0 1 0 1), (1, .eqI 42 42), (1, .eqI 1 1), (5, .eqI 0 0), (1, .eq 52 52), (1, .le 52 52), (33, .lt2 0 1 0 1), (1, .eqI 43 43), (1, .eqI 3 3), (1, .eqI 2 2), (1, .eqI 42 42), (1, .eqI 0 0), (2, .eqI 1 1), (1, .eq 52 52), (1, .le 52 52), (33, .lt2 0 1 0 1), (1, .eqI 46 46), (1, .eqI 0 0), (1, .eqI 2 2), (1, .eqI 43 43), (1, .eqI 0 0), (1, .eqI 3 3), (1, .eqI 2 2), (1, .eq 52 52), (1, .le 52 52)]
    (V.need True
    (nN [(33, .lt2 0 1 0 1), (1, .eqI 42 42), (1, .pf (IntKind.u64.wrap s = IntKind.u64.wrap s) rfl), (1, .eqI 2 2), (1, .eqI 46 46), (2, .eqI 0 0), (1, .eqI 3 3), (1, .eq 52 52), (1, .le 52 52), (33, .lt2 0 1 0 1), (1, .eqI 38 38), (1, .pf (IntKind.u64.wrap o = IntKind.u64.wrap o) rfl), (1, .eqI 2 2), (1, .eqI 42 42), (1, .eqI 1 1), (1, .pf (IntKind.u64.wrap s = IntKind.u64.wrap s) rfl), (1, .eqI 4 4), (1, .eq 52 52), (1, .le 52 52), (1, .pf (IntKind.u64.wrap s = IntKind.u64.wrap s) rfl), (33, .lt2 0 1 0 1), (1, .eqI 42 42), (1, .eqI 2 2), (1, .eqI 38 38), (1, .eqI 0 0), (1, .pf (IntKind.u64.wrap o = IntKind.u64.wrap o) rfl), (1, .eqI 5 5), (1, .eq 52 52), (1, .le 52 52), (1, .pf (IntKind.u64.wrap o = IntKind.u64.wrap o) rfl), (1, .pf (IntKind.u64.wrap s = IntKind.u64.wrap s) rfl)]
    (V.br (IntKind.u64.wrap s != Int.ofNat 1)
    (nN [(39, .lt2 0 1 0 1), (2, .lt 38 52)]
    (V.br (IntKind.u64.wrap o != IntKind.u64.wrap o)
    (V.bad 420)
    (nN [(33, .lt2 0 1 0 1), (2, .lt 42 52)]
    (V.br (IntKind.u64.wrap s != IntKind.u64.wrap s)
    (V.bad 420)
    (nN [(33, .lt2 0 1 0 1), (2, .lt 37 52)]
    (V.br (s == Int.ofNat 1) V.ok
    (nN [(33, .lt2 0 1 0 1), (2, .lt 43 52), (1, .neI 4 0)]
    (V.br (Int.ofNat 3 == IntKind.u64.wrap (l.tmod (Int.ofNat 4)))
    (nN [(3, .lt2 0 1 0 1)] V.ok)
    (V.bad 420)))))))))
    (nN [(19, .lt2 0 1 0 1), (1, .eqI 46 46), (1, .eqI 1 1), (1, .eqI 42 42), (2, .pf (IntKind.u64.wrap s = IntKind.u64.wrap s) rfl), (1, .eqI 6 6), (1, .eq 52 52), (1, .le 52 52), (1, .pf (IntKind.u64.wrap o = IntKind.u64.wrap o) rfl), (1, .pf (IntKind.u64.wrap s = IntKind.u64.wrap s) rfl), (29, .lt2 0 1 0 1), (1, .eqI 43 43), (1, .eqI 1 1), (1, .eqI 46 46), (2, .eqI 0 0), (1, .eqI 7 7), (1, .eq 52 52), (1, .le 52 52), (1, .pf (IntKind.u64.wrap o = IntKind.u64.wrap o) rfl), (1, .pf (IntKind.u64.wrap s = IntKind.u64.wrap s) rfl), (48, .lt2 0 1 0 1), (2, .lt 38 52)]
    (V.br (IntKind.u64.wrap o != IntKind.u64.wrap o)
    (V.bad 420)
    (nN [(33, .lt2 0 1 0 1), (2, .lt 42 52)]
    (V.br (IntKind.u64.wrap s != IntKind.u64.wrap s)
    (V.bad 420)
    (nN [(33, .lt2 0 1 0 1), (2, .lt 37 52)]
    (V.br (s == Int.ofNat 1) V.ok
    (nN [(33, .lt2 0 1 0 1), (2, .lt 43 52), (1, .neI 4 0)]
    (V.br (Int.ofNat 3 == IntKind.u64.wrap (l.tmod (Int.ofNat 4)))
    (nN [(3, .lt2 0 1 0 1)] V.ok)
    (V.bad 420)))))))))))))))))))))))))))))
    (V.bad 490)))) := by kernel_rfl


end Go.Proofs.Ytdnagdckpkflhaa.Vc

/- AgingOnly: the conditions hold; the walk. -/
set_option linter.unusedVariables false
set_option linter.unusedSimpArgs false
set_option maxRecDepth 100000
namespace Go.Proofs.Ytdnagdckpkflhaa.Vc
open Go Go.RowKit Sx Cn Dc Ck
theorem vhAw20 : VHolds verAw20 := by
  constructor
  rw [verAw20_eq]
  (repeat' first | with_reducible exact V.okI | with_reducible refine V.brT ?_ | with_reducible refine V.brF ?_ | with_reducible refine V.brI ?_ ?_ | with_reducible refine V.anyI ?_ | with_reducible refine nN_h ?_ ?_ | with_reducible refine V.needI ?_ ?_ | intro _)
  all_goals first
    | (first | rfl | exact True.intro | exact ⟨u8_0, by decide⟩ | exact ⟨(1, 0, fun _ => 0), Nat.le_refl _⟩ | exact ⟨Nat.le_refl _, by assumption⟩ | exact Nat.zero_le _ | exact ⟨Nat.zero_le _, Nat.zero_le _⟩ | exact ⟨(_, _), is_cl _, Nat.le_refl _⟩ | exact err9 (by unfold okN; simp only [Int.ofNat_eq_natCast]; omega) rfl rfl rfl | decide)
    | omega
    | trace_state
theorem con20_ok (v : Int) : ConOK P (con20 v) := .add (splitA_ok conWM_ok _) (.add (conYes_ok (local_of_ps conWM_ok fun _ => vhAw20)) conWM_ok)
set_option maxHeartbeats 4000000 in
theorem vhOnly0 {s l o : Int} (hs : 0 ≤ s ∧ s ≤ 255) (hl : 0 ≤ l ∧ l ≤ 255) (ho : 0 ≤ o ∧ o ≤ 255) (h : l.tmod ((4 : Nat) : Int) = 0) : VHolds (verOnly 0 s l o) := by
  constructor
  rw [verOnly0_eq]
  have e1 : IntKind.u64.wrap s = s := wu64 (by omega)
  have e2 : IntKind.u64.wrap o = o := wu64 (by omega)
  have e3 : IntKind.i64.wrap 0 = 0 := w64 (by omega)
  have e4 : IntKind.u64.wrap 0 = 0 := wu64 (by omega)
  simp only [Int.ofNat_eq_natCast, h, e1, e2, e3, e4]
  (repeat' first | with_reducible exact V.okI | with_reducible refine V.brT ?_ | with_reducible refine V.brF ?_ | with_reducible refine V.brI ?_ ?_ | with_reducible refine V.anyI ?_ | with_reducible refine nN_h ?_ ?_ | with_reducible refine V.needI ?_ ?_ | intro _)
  all_goals first
    | (first | rfl | exact True.intro | exact ⟨u8_0, by decide⟩ | exact ⟨(1, 0, fun _ => 0), Nat.le_refl _⟩ | exact ⟨Nat.le_refl _, by assumption⟩ | exact Nat.zero_le _ | exact ⟨Nat.zero_le _, Nat.zero_le _⟩ | exact ⟨(_, _), is_cl _, Nat.le_refl _⟩ | exact err9 (by unfold okN; simp only [Int.ofNat_eq_natCast]; omega) rfl rfl rfl | decide)
    | omega
    | (simp only [decide_eq_true_eq, decide_eq_false_iff_not, Bool.not_eq_true', Bool.not_eq_false', bne_iff_ne, bne_eq_false_iff_eq, beq_iff_eq, beq_eq_false_iff_ne, ne_eq, ge_iff_le, bne_self_eq_false, beq_self_eq_true, Bool.false_eq_true, Bool.true_eq_false, not_true_eq_false] at * <;> omega)
    | (exfalso; simp only [decide_eq_true_eq, decide_eq_false_iff_not, Bool.not_eq_true', Bool.not_eq_false', bne_iff_ne, bne_eq_false_iff_eq, beq_iff_eq, beq_eq_false_iff_ne, ne_eq, ge_iff_le, bne_self_eq_false, beq_self_eq_true, Bool.false_eq_true, Bool.true_eq_false, not_true_eq_false] at * <;> omega)
    | trace_state
set_option maxHeartbeats 4000000 in
theorem vhOnly1 {s l o : Int} (hs : 0 ≤ s ∧ s ≤ 255) (hl : 0 ≤ l ∧ l ≤ 255) (ho : 0 ≤ o ∧ o ≤ 255) (h : l.tmod ((4 : Nat) : Int) = 1) : VHolds (verOnly 1 s l o) := by
  constructor
  rw [verOnly1_eq]
  have e1 : IntKind.u64.wrap s = s := wu64 (by omega)
  have e2 : IntKind.u64.wrap o = o := wu64 (by omega)
  have e3 : IntKind.i64.wrap 1 = 1 := w64 (by omega)
  have e4 : IntKind.u64.wrap 1 = 1 := wu64 (by omega)
  simp only [Int.ofNat_eq_natCast, h, e1, e2, e3, e4]
  (repeat' first | with_reducible exact V.okI | with_reducible refine V.brT ?_ | with_reducible refine V.brF ?_ | with_reducible refine V.brI ?_ ?_ | with_reducible refine V.anyI ?_ | with_reducible refine nN_h ?_ ?_ | with_reducible refine V.needI ?_ ?_ | intro _)
  all_goals first
    | (first | rfl | exact True.intro | exact ⟨u8_0, by decide⟩ | exact ⟨(1, 0, fun _ => 0), Nat.le_refl _⟩ | exact ⟨Nat.le_refl _, by assumption⟩ | exact Nat.zero_le _ | exact ⟨Nat.zero_le _, Nat.zero_le _⟩ | exact ⟨(_, _), is_cl _, Nat.le_refl _⟩ | exact err9 (by unfold okN; simp only [Int.ofNat_eq_natCast]; omega) rfl rfl rfl | decide)
    | omega
    | (simp only [decide_eq_true_eq, decide_eq_false_iff_not, Bool.not_eq_true', Bool.not_eq_false', bne_iff_ne, bne_eq_false_iff_eq, beq_iff_eq, beq_eq_false_iff_ne, ne_eq, ge_iff_le, bne_self_eq_false, beq_self_eq_true, Bool.false_eq_true, Bool.true_eq_false, not_true_eq_false] at * <;> omega)
    | (exfalso; simp only [decide_eq_true_eq, decide_eq_false_iff_not, Bool.not_eq_true', Bool.not_eq_false', bne_iff_ne, bne_eq_false_iff_eq, beq_iff_eq, beq_eq_false_iff_ne, ne_eq, ge_iff_le, bne_self_eq_false, beq_self_eq_true, Bool.false_eq_true, Bool.true_eq_false, not_true_eq_false] at * <;> omega)
    | trace_state
set_option maxHeartbeats 4000000 in
theorem vhOnly2 {s l o : Int} (hs : 0 ≤ s ∧ s ≤ 255) (hl : 0 ≤ l ∧ l ≤ 255) (ho : 0 ≤ o ∧ o ≤ 255) (h : l.tmod ((4 : Nat) : Int) = 2) : VHolds (verOnly 2 s l o) := by
  constructor
  rw [verOnly2_eq]
  have e1 : IntKind.u64.wrap s = s := wu64 (by omega)
  have e2 : IntKind.u64.wrap o = o := wu64 (by omega)
  have e3 : IntKind.i64.wrap 2 = 2 := w64 (by omega)
  have e4 : IntKind.u64.wrap 2 = 2 := wu64 (by omega)
  simp only [Int.ofNat_eq_natCast, h, e1, e2, e3, e4]
  (repeat' first | with_reducible exact V.okI | with_reducible refine V.brT ?_ | with_reducible refine V.brF ?_ | with_reducible refine V.brI ?_ ?_ | with_reducible refine V.anyI ?_ | with_reducible refine nN_h ?_ ?_ | with_reducible refine V.needI ?_ ?_ | intro _)
  all_goals first
    | (first | rfl | exact True.intro | exact ⟨u8_0, by decide⟩ | exact ⟨(1, 0, fun _ => 0), Nat.le_refl _⟩ | exact ⟨Nat.le_refl _, by assumption⟩ | exact Nat.zero_le _ | exact ⟨Nat.zero_le _, Nat.zero_le _⟩ | exact ⟨(_, _), is_cl _, Nat.le_refl _⟩ | exact err9 (by unfold okN; simp only [Int.ofNat_eq_natCast]; omega) rfl rfl rfl | decide)
    | omega
    | (simp only [decide_eq_true_eq, decide_eq_false_iff_not, Bool.not_eq_true', Bool.not_eq_false', bne_iff_ne, bne_eq_false_iff_eq, beq_iff_eq, beq_eq_false_iff_ne, ne_eq, ge_iff_le, bne_self_eq_false, beq_self_eq_true, Bool.false_eq_true, Bool.true_eq_false, not_true_eq_false] at * <;> omega)
    | (exfalso; simp only [decide_eq_true_eq, decide_eq_false_iff_not, Bool.not_eq_true', Bool.not_eq_false', bne_iff_ne, bne_eq_false_iff_eq, beq_iff_eq, beq_eq_false_iff_ne, ne_eq, ge_iff_le, bne_self_eq_false, beq_self_eq_true, Bool.false_eq_true, Bool.true_eq_false, not_true_eq_false] at * <;> omega)
    | trace_state
set_option maxHeartbeats 4000000 in
theorem vhOnly3 {s l o : Int} (hs : 0 ≤ s ∧ s ≤ 255) (hl : 0 ≤ l ∧ l ≤ 255) (ho : 0 ≤ o ∧ o ≤ 255) (h : l.tmod ((4 : Nat) : Int) = 3) : VHolds (verOnly 3 s l o) := by
  constructor
  rw [verOnly3_eq]
  have e1 : IntKind.u64.wrap s = s := wu64 (by omega)
  have e2 : IntKind.u64.wrap o = o := wu64 (by omega)
  have e3 : IntKind.i64.wrap 3 = 3 := w64 (by omega)
  have e4 : IntKind.u64.wrap 3 = 3 := wu64 (by omega)
  simp only [Int.ofNat_eq_natCast, h, e1, e2, e3, e4]
  (repeat' first | with_reducible exact V.okI | with_reducible refine V.brT ?_ | with_reducible refine V.brF ?_ | with_reducible refine V.brI ?_ ?_ | with_reducible refine V.anyI ?_ | with_reducible refine nN_h ?_ ?_ | with_reducible refine V.needI ?_ ?_ | intro _)
  all_goals first
    | (first | rfl | exact True.intro | exact ⟨u8_0, by decide⟩ | exact ⟨(1, 0, fun _ => 0), Nat.le_refl _⟩ | exact ⟨Nat.le_refl _, by assumption⟩ | exact Nat.zero_le _ | exact ⟨Nat.zero_le _, Nat.zero_le _⟩ | exact ⟨(_, _), is_cl _, Nat.le_refl _⟩ | exact err9 (by unfold okN; simp only [Int.ofNat_eq_natCast]; omega) rfl rfl rfl | decide)
    | omega
    | (simp only [decide_eq_true_eq, decide_eq_false_iff_not, Bool.not_eq_true', Bool.not_eq_false', bne_iff_ne, bne_eq_false_iff_eq, beq_iff_eq, beq_eq_false_iff_ne, ne_eq, ge_iff_le, bne_self_eq_false, beq_self_eq_true, Bool.false_eq_true, Bool.true_eq_false, not_true_eq_false] at * <;> omega)
    | (exfalso; simp only [decide_eq_true_eq, decide_eq_false_iff_not, Bool.not_eq_true', Bool.not_eq_false', bne_iff_ne, bne_eq_false_iff_eq, beq_iff_eq, beq_eq_false_iff_ne, ne_eq, ge_iff_le, bne_self_eq_false, beq_self_eq_true, Bool.false_eq_true, Bool.true_eq_false, not_true_eq_false] at * <;> omega)
    | trace_state
theorem walkOnly (s l o : Int) (w : World) (hs : (Lit.int .u8 s).wf = true) (hl : (Lit.int .u8 l).wf = true) (ho : (Lit.int .u8 o).wf = true) : Calls P 13 #[.int .u8 s, .int .u8 l, .int .u8 o] w fun e w' => e = .returned (.bool true) ∧ Below w.heap.size w w' := by
  have hs := u8i hs
  have hl := u8i hl
  have ho := u8i ho
  have e : l.tmod ((4 : Nat) : Int) = l % 4 := Int.tmod_eq_emod_of_nonneg hl.1
  have go : ∀ v, VHolds (verOnly v s l o) → Calls P 13 #[.int .u8 s, .int .u8 l, .int .u8 o] w fun e w' => e = .returned (.bool true) ∧ Below w.heap.size w w' := fun v hv =>
    calls_yesV (vs := [.int .u8 s, .int .u8 l, .int .u8 o]) (con20_ok v) (ρ := fun _ _ => none) hv (views_inv fun q b hk => by simp [find] at hk) ⟨fun _ _ => rfl, fun _ _ => rfl, fun _ _ => rfl, trivial⟩
  have h4 : l % 4 = 0 ∨ l % 4 = 1 ∨ l % 4 = 2 ∨ l % 4 = 3 := by omega
  rcases h4 with h | h | h | h
  · exact go 0 (vhOnly0 hs hl ho (e.trans h))
  · exact go 1 (vhOnly1 hs hl ho (e.trans h))
  · exact go 2 (vhOnly2 hs hl ho (e.trans h))
  · exact go 3 (vhOnly3 hs hl ho (e.trans h))
end Go.Proofs.Ytdnagdckpkflhaa.Vc
