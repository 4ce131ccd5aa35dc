/- AgingWhen: the conditions, printed by program. -/
import Derived.Test.YtomaagmleafjeaaMMdAgD
import Derived.Test.YtomaagmleafjeaaMW
import Derived.Test.YtomaagmleafjeaaMMdSw
set_option linter.unusedVariables false
set_option linter.unusedSimpArgs false
set_option linter.unusedVariables false
set_option maxRecDepth 100000
namespace Go.Proofs.Ytomaagmleafjeaa.Md
open Go Go.RowKit Sx Cn Dc Ck Vc

set_option maxHeartbeats 8000000 in
theorem verAg_eq (age level since more task : Int) : verAg age level since more task =
  nN [(1, .neI 10 0)]
    (V.need ((U8 0 fun (x : Nat) => Int.ofNat 0) ∧ 0 ≤ 9)
    (V.need (∃ (x : Nat × Nat × (Nat → Nat)), 1 ≤ x.fst)
    (V.any (Nat × Nat × (Nat → Nat)) (fun (x : Nat × Nat × (Nat → Nat)) => 1 ≤ x.fst) fun (x : Nat × Nat × (Nat → Nat)) => nN [(2, .neI 4 0), (2, .neI 20 0), (1, .pf (IntKind.i64.wrap (age.tmod (Int.ofNat 10)) = IntKind.i64.wrap (age.tmod (Int.ofNat 10))) rfl), (1, .eq 1 1), (1, .pf (x.fst = x.fst) rfl), (1, .eq 0 0), (1, .pf (x.snd.fst = x.snd.fst) rfl), (1, .pf (IntKind.i64.wrap (task.tmod (Int.ofNat 4)) = IntKind.i64.wrap (task.tmod (Int.ofNat 4))) rfl), (1, .pf (IntKind.i64.wrap (level.tmod (Int.ofNat 4)) = IntKind.i64.wrap (level.tmod (Int.ofNat 4))) rfl), (1, .pf (IntKind.i64.wrap (since.tmod (Int.ofNat 20)) = IntKind.i64.wrap (since.tmod (Int.ofNat 20))) rfl), (1, .pf (IntKind.i64.wrap (IntKind.i64.wrap (since.tmod (Int.ofNat 20)) + IntKind.i64.wrap (more.tmod (Int.ofNat 20))) = IntKind.i64.wrap (IntKind.i64.wrap (since.tmod (Int.ofNat 20)) + IntKind.i64.wrap (more.tmod (Int.ofNat 20)))) rfl), (1, .le 1 1)]
    (V.need (1 ≤ 1 ∧ 1 ≤ x.fst)
    (nN [(1, .pf (∀ (i e : Nat), i = 0 ∧ e < 1 → e = e) (by intros; rfl)), (1, .pf (∀ (i e : Nat), i = 0 ∧ e < 1 → 0 = 0) (by intros; rfl)), (1, .pf (∀ (i e : Nat), i = 0 ∧ e < 1 → x.snd.snd e = x.snd.snd e) (by intros; rfl)), (1, .le 1 1)]
    (V.need (0 ≤ 0 ∧ 0 ≤ x.snd.fst)
    (nN [(1, .pf (∀ (i e : Nat), i = 0 ∧ e < 0 → uP (fun (x : Nat) => Int.ofNat 0) 0 e = uP (fun (x : Nat) => Int.ofNat 0) 0 e) (by intros; rfl)), (1, .pf (∀ (i e : Nat), i = 0 ∧ e < 0 → uL (fun (x : Nat) => Int.ofNat 0) 0 e = uL (fun (x : Nat) => Int.ofNat 0) 0 e) (by intros; rfl)), (1, .pf (∀ (i e : Nat), i = 0 ∧ e < 0 → uD (fun (x : Nat) => Int.ofNat 0) 0 e = uD (fun (x : Nat) => Int.ofNat 0) 0 e) (by intros; rfl))]
    (V.need (∀ (i : Nat), i < 1 → 0 ≤ gd 1 (fun (x : Nat) => 0) i ∧ 0 ≤ gd 1 (fun (e : Nat) => x.snd.snd e) i)
    (nN [(1, .pf (∀ (i e : Nat), i < 1 ∧ e < 0 → cO (fun (x : Nat) => Int.ofNat 0) 0 i e = cO (fun (x : Nat) => Int.ofNat 0) 0 i e) (by intros; rfl)), (1, .pf (∀ (i e : Nat), i < 1 ∧ e < 0 → cA (fun (x : Nat) => Int.ofNat 0) 0 i e = cA (fun (x : Nat) => Int.ofNat 0) 0 i e) (by intros; rfl)), (1, .pf (∀ (i e : Nat), i < 1 ∧ e < 0 → cB (fun (x : Nat) => Int.ofNat 0) 0 i e = cB (fun (x : Nat) => Int.ofNat 0) 0 i e) (by intros; rfl))]
    (V.need (preWt (Cf.mk (Int.ofNat 1) (Int.ofNat 4) (Int.ofNat 1) (Int.ofNat 4) (Int.ofNat 4) (Int.ofNat 1) (Int.ofNat 1) (IntKind.i64.wrap (age.tmod (Int.ofNat 10))) (Int.ofNat 1) 1 x.fst 0 x.snd.fst (fun (e : Nat) => 0) (fun (e : Nat) => x.snd.snd e) (fun (i e : Nat) => cO (fun (x : Nat) => Int.ofNat 0) 0 i e) (fun (i e : Nat) => cA (fun (x : Nat) => Int.ofNat 0) 0 i e) (fun (i e : Nat) => cB (fun (x : Nat) => Int.ofNat 0) 0 i e) (fun (e : Nat) => uP (fun (x : Nat) => Int.ofNat 0) 0 e) (fun (e : Nat) => uL (fun (x : Nat) => Int.ofNat 0) 0 e) fun (e : Nat) => uD (fun (x : Nat) => Int.ofNat 0) 0 e) (IntKind.i64.wrap (task.tmod (Int.ofNat 4))) (IntKind.i64.wrap (level.tmod (Int.ofNat 4))) (IntKind.i64.wrap (since.tmod (Int.ofNat 20))) (IntKind.i64.wrap (IntKind.i64.wrap (since.tmod (Int.ofNat 20)) + IntKind.i64.wrap (more.tmod (Int.ofNat 20)))))
    (V.need (∃ (x_1 : XWt), φWt (Cf.mk (Int.ofNat 1) (Int.ofNat 4) (Int.ofNat 1) (Int.ofNat 4) (Int.ofNat 4) (Int.ofNat 1) (Int.ofNat 1) (IntKind.i64.wrap (age.tmod (Int.ofNat 10))) (Int.ofNat 1) 1 x.fst 0 x.snd.fst (fun (e : Nat) => 0) (fun (e : Nat) => x.snd.snd e) (fun (i e : Nat) => cO (fun (x : Nat) => Int.ofNat 0) 0 i e) (fun (i e : Nat) => cA (fun (x : Nat) => Int.ofNat 0) 0 i e) (fun (i e : Nat) => cB (fun (x : Nat) => Int.ofNat 0) 0 i e) (fun (e : Nat) => uP (fun (x : Nat) => Int.ofNat 0) 0 e) (fun (e : Nat) => uL (fun (x : Nat) => Int.ofNat 0) 0 e) fun (e : Nat) => uD (fun (x : Nat) => Int.ofNat 0) 0 e) (IntKind.i64.wrap (task.tmod (Int.ofNat 4))) (IntKind.i64.wrap (level.tmod (Int.ofNat 4))) (IntKind.i64.wrap (since.tmod (Int.ofNat 20))) (IntKind.i64.wrap (IntKind.i64.wrap (since.tmod (Int.ofNat 20)) + IntKind.i64.wrap (more.tmod (Int.ofNat 20)))) x_1)
    (V.any XWt (φWt (Cf.mk (Int.ofNat 1) (Int.ofNat 4) (Int.ofNat 1) (Int.ofNat 4) (Int.ofNat 4) (Int.ofNat 1) (Int.ofNat 1) (IntKind.i64.wrap (age.tmod (Int.ofNat 10))) (Int.ofNat 1) 1 x.fst 0 x.snd.fst (fun (e : Nat) => 0) (fun (e : Nat) => x.snd.snd e) (fun (i e : Nat) => cO (fun (x : Nat) => Int.ofNat 0) 0 i e) (fun (i e : Nat) => cA (fun (x : Nat) => Int.ofNat 0) 0 i e) (fun (i e : Nat) => cB (fun (x : Nat) => Int.ofNat 0) 0 i e) (fun (e : Nat) => uP (fun (x : Nat) => Int.ofNat 0) 0 e) (fun (e : Nat) => uL (fun (x : Nat) => Int.ofNat 0) 0 e) fun (e : Nat) => uD (fun (x : Nat) => Int.ofNat 0) 0 e) (IntKind.i64.wrap (task.tmod (Int.ofNat 4))) (IntKind.i64.wrap (level.tmod (Int.ofNat 4))) (IntKind.i64.wrap (since.tmod (Int.ofNat 20))) (IntKind.i64.wrap (IntKind.i64.wrap (since.tmod (Int.ofNat 20)) + IntKind.i64.wrap (more.tmod (Int.ofNat 20))))) fun (x_1 : XWt) => V.need True
    (nN [(1, .eqI 30 30), (1, .pf (IntKind.i64.wrap (age.tmod (Int.ofNat 10)) = IntKind.i64.wrap (age.tmod (Int.ofNat 10))) rfl), (2, .eq 0 0), (1, .pf (x_1.m.lk = x_1.m.lk) rfl), (1, .pf (x_1.m.lc = x_1.m.lc) rfl), (1, .pf (x_1.m.lo = x_1.m.lo) rfl), (1, .pf (x_1.m.ln = x_1.m.ln) rfl), (1, .pf (x_1.m.ct = x_1.m.ct) rfl), (1, .eq 52 52), (1, .le 52 52), (1, .pf (∀ (e : Nat), e < 52 → x_1.m.g e = x_1.m.g e) (by intros; rfl)), (1, .pf (IntKind.i64.wrap (task.tmod (Int.ofNat 4)) = IntKind.i64.wrap (task.tmod (Int.ofNat 4))) rfl), (1, .eq 0 0), (1, .le 0 0), (5, .pf (∀ (e : Nat), e < 0 → Int.ofNat 0 = Int.ofNat 0) (by intros; rfl)), (1, .pf (x_1.now = x_1.now) rfl)]
    (V.need (preSw (IntKind.i64.wrap (age.tmod (Int.ofNat 10))) x_1.now (IntKind.i64.wrap (task.tmod (Int.ofNat 4))) (Mm.mk (fun (e : Nat) => x_1.m.g e) x_1.m.lk x_1.m.lc x_1.m.lo x_1.m.ln x_1.m.ct) 0)
    (V.need (∃ (x : Re × Nat), φSw (IntKind.i64.wrap (age.tmod (Int.ofNat 10))) x_1.now (IntKind.i64.wrap (task.tmod (Int.ofNat 4))) (Mm.mk (fun (e : Nat) => x_1.m.g e) x_1.m.lk x_1.m.lc x_1.m.lo x_1.m.ln x_1.m.ct) x.fst ∧ x.fst.l.n ≤ x.snd)
    (V.any (Re × Nat) (fun (r : Re × Nat) => φSw (IntKind.i64.wrap (age.tmod (Int.ofNat 10))) x_1.now (IntKind.i64.wrap (task.tmod (Int.ofNat 4))) (Mm.mk (fun (e : Nat) => x_1.m.g e) x_1.m.lk x_1.m.lc x_1.m.lo x_1.m.ln x_1.m.ct) r.fst ∧ r.fst.l.n ≤ r.snd) fun (x_2 : Re × Nat) => V.br (decide (IntKind.i64.wrap (age.tmod (Int.ofNat 10)) > Int.ofNat 0))
    (V.br (decide (IntKind.i64.wrap (IntKind.i64.wrap (IntKind.i64.wrap (since.tmod (Int.ofNat 20)) + IntKind.i64.wrap (more.tmod (Int.ofNat 20))) - IntKind.i64.wrap (since.tmod (Int.ofNat 20))) ≥ IntKind.i64.wrap (age.tmod (Int.ofNat 10))))
    (V.br (!decide (IntKind.i64.wrap (level.tmod (Int.ofNat 4)) < Int.ofNat 3))
    (nN [(3, .lt2 0 1 0 1)]
    (V.br ((↑x_2.fst.l.n : Int) == Int.ofNat 0)
    (nN [(14, .lt2 0 1 0 1), (1, .eqI 1 1), (1, .eqI 4 4), (1, .eqI 1 1), (2, .eqI 4 4), (2, .eqI 1 1), (1, .pf (IntKind.i64.wrap (age.tmod (Int.ofNat 10)) = IntKind.i64.wrap (age.tmod (Int.ofNat 10))) rfl), (1, .eqI 1 1), (1, .eq 1 1), (1, .pf (x.fst = x.fst) rfl), (1, .eq 0 0), (1, .pf (x.snd.fst = x.snd.fst) rfl), (1, .pf (IntKind.i64.wrap (task.tmod (Int.ofNat 4)) = IntKind.i64.wrap (task.tmod (Int.ofNat 4))) rfl), (1, .eqI 1 1), (1, .le 1 1), (1, .pf (∀ (i : Nat), i < 1 → 1 ≤ 1) (by intros; exact Nat.le_refl _)), (1, .pf (∀ (i e : Nat), i < 1 ∧ e < 1 → e = e) (by intros; rfl)), (1, .pf (∀ (i e : Nat), i < 1 ∧ e < 1 → 0 = 0) (by intros; rfl)), (1, .pf (∀ (i e : Nat), i < 1 ∧ e < 1 → x.snd.snd e = x.snd.snd e) (by intros; rfl)), (1, .le 1 1), (1, .pf (∀ (i : Nat), i < 1 → 0 ≤ 0) (by intros; exact Nat.le_refl _)), (1, .pf (∀ (i e : Nat), i < 1 ∧ e < 0 → uP (fun (x : Nat) => Int.ofNat 0) 0 e = uP (fun (x : Nat) => Int.ofNat 0) 0 e) (by intros; rfl)), (1, .pf (∀ (i e : Nat), i < 1 ∧ e < 0 → uL (fun (x : Nat) => Int.ofNat 0) 0 e = uL (fun (x : Nat) => Int.ofNat 0) 0 e) (by intros; rfl)), (1, .pf (∀ (i e : Nat), i < 1 ∧ e < 0 → uD (fun (x : Nat) => Int.ofNat 0) 0 e = uD (fun (x : Nat) => Int.ofNat 0) 0 e) (by intros; rfl))]
    (V.need (∀ (i : Nat), i < 1 → 0 ≤ gd 1 (fun (x : Nat) => 0) i ∧ 0 ≤ gd 1 (fun (e : Nat) => x.snd.snd e) i)
    (nN [(1, .pf (∀ (i e : Nat), i < 1 ∧ e < 0 → cO (fun (x : Nat) => Int.ofNat 0) 0 i e = cO (fun (x : Nat) => Int.ofNat 0) 0 i e) (by intros; rfl)), (1, .pf (∀ (i e : Nat), i < 1 ∧ e < 0 → cA (fun (x : Nat) => Int.ofNat 0) 0 i e = cA (fun (x : Nat) => Int.ofNat 0) 0 i e) (by intros; rfl)), (1, .pf (∀ (i e : Nat), i < 1 ∧ e < 0 → cB (fun (x : Nat) => Int.ofNat 0) 0 i e = cB (fun (x : Nat) => Int.ofNat 0) 0 i e) (by intros; rfl))]
    (V.need (preTk (Cf.mk (Int.ofNat 1) (Int.ofNat 4) (Int.ofNat 1) (Int.ofNat 4) (Int.ofNat 4) (Int.ofNat 1) (Int.ofNat 1) (IntKind.i64.wrap (age.tmod (Int.ofNat 10))) (Int.ofNat 1) 1 x.fst 0 x.snd.fst (fun (e : Nat) => 0) (fun (e : Nat) => x.snd.snd e) (fun (i e : Nat) => cO (fun (x : Nat) => Int.ofNat 0) 0 i e) (fun (i e : Nat) => cA (fun (x : Nat) => Int.ofNat 0) 0 i e) (fun (i e : Nat) => cB (fun (x : Nat) => Int.ofNat 0) 0 i e) (fun (e : Nat) => uP (fun (x : Nat) => Int.ofNat 0) 0 e) (fun (e : Nat) => uL (fun (x : Nat) => Int.ofNat 0) 0 e) fun (e : Nat) => uD (fun (x : Nat) => Int.ofNat 0) 0 e) (IntKind.i64.wrap (task.tmod (Int.ofNat 4))) (Int.ofNat 1))
    (nN [(1, .pf (∃ (x_3 : Int), x_3 = lT (Cf.mk (Int.ofNat 1) (Int.ofNat 4) (Int.ofNat 1) (Int.ofNat 4) (Int.ofNat 4) (Int.ofNat 1) (Int.ofNat 1) (IntKind.i64.wrap (age.tmod (Int.ofNat 10))) (Int.ofNat 1) 1 x.fst 0 x.snd.fst (fun (e : Nat) => 0) (fun (e : Nat) => x.snd.snd e) (fun (i e : Nat) => cO (fun (x : Nat) => Int.ofNat 0) 0 i e) (fun (i e : Nat) => cA (fun (x : Nat) => Int.ofNat 0) 0 i e) (fun (i e : Nat) => cB (fun (x : Nat) => Int.ofNat 0) 0 i e) (fun (e : Nat) => uP (fun (x : Nat) => Int.ofNat 0) 0 e) (fun (e : Nat) => uL (fun (x : Nat) => Int.ofNat 0) 0 e) fun (e : Nat) => uD (fun (x : Nat) => Int.ofNat 0) 0 e) + IntKind.i64.wrap (task.tmod (Int.ofNat 4)) * Int.ofNat 5 + Int.ofNat 1) ⟨_, rfl⟩)]
    (V.any Int (fun (r : Int) => r = lT (Cf.mk (Int.ofNat 1) (Int.ofNat 4) (Int.ofNat 1) (Int.ofNat 4) (Int.ofNat 4) (Int.ofNat 1) (Int.ofNat 1) (IntKind.i64.wrap (age.tmod (Int.ofNat 10))) (Int.ofNat 1) 1 x.fst 0 x.snd.fst (fun (e : Nat) => 0) (fun (e : Nat) => x.snd.snd e) (fun (i e : Nat) => cO (fun (x : Nat) => Int.ofNat 0) 0 i e) (fun (i e : Nat) => cA (fun (x : Nat) => Int.ofNat 0) 0 i e) (fun (i e : Nat) => cB (fun (x : Nat) => Int.ofNat 0) 0 i e) (fun (e : Nat) => uP (fun (x : Nat) => Int.ofNat 0) 0 e) (fun (e : Nat) => uL (fun (x : Nat) => Int.ofNat 0) 0 e) fun (e : Nat) => uD (fun (x : Nat) => Int.ofNat 0) 0 e) + IntKind.i64.wrap (task.tmod (Int.ofNat 4)) * Int.ofNat 5 + Int.ofNat 1) fun (x_3 : Int) => nN [(1, .pf (x_3 = x_3) rfl), (1, .pf (x_2.fst.m.ct = x_2.fst.m.ct) rfl), (1, .le 1 1), (1, .le2 52 52 52 52), (1, .pf (∀ (i e : Nat), i = 0 ∧ e < 52 → x_2.fst.m.g e = x_2.fst.m.g e) (by intros; rfl)), (1, .pf (∃ (x : Int), x = (Mm.mk (fun (e : Nat) => x_2.fst.m.g e) x_2.fst.m.lk x_2.fst.m.lc x_2.fst.m.lo x_2.fst.m.ln x_2.fst.m.ct).val 52 x_3) ⟨_, rfl⟩)]
    (V.any Int (fun (v : Int) => v = (Mm.mk (fun (e : Nat) => x_2.fst.m.g e) x_2.fst.m.lk x_2.fst.m.lc x_2.fst.m.lo x_2.fst.m.ln x_2.fst.m.ct).val 52 x_3) fun (x_4 : Int) => V.br (x_4 == IntKind.u64.wrap (IntKind.i64.wrap (level.tmod (Int.ofNat 4))))
    (nN [(14, .lt2 0 1 0 1), (1, .eqI 1 1), (1, .eqI 4 4), (1, .eqI 1 1), (2, .eqI 4 4), (2, .eqI 1 1), (1, .pf (IntKind.i64.wrap (age.tmod (Int.ofNat 10)) = IntKind.i64.wrap (age.tmod (Int.ofNat 10))) rfl), (1, .eqI 1 1), (1, .eq 1 1), (1, .pf (x.fst = x.fst) rfl), (1, .eq 0 0), (1, .pf (x.snd.fst = x.snd.fst) rfl), (1, .pf (IntKind.i64.wrap (task.tmod (Int.ofNat 4)) = IntKind.i64.wrap (task.tmod (Int.ofNat 4))) rfl), (1, .eqI 4 4), (1, .le 1 1), (1, .pf (∀ (i : Nat), i < 1 → 1 ≤ 1) (by intros; exact Nat.le_refl _)), (1, .pf (∀ (i e : Nat), i < 1 ∧ e < 1 → e = e) (by intros; rfl)), (1, .pf (∀ (i e : Nat), i < 1 ∧ e < 1 → 0 = 0) (by intros; rfl)), (1, .pf (∀ (i e : Nat), i < 1 ∧ e < 1 → x.snd.snd e = x.snd.snd e) (by intros; rfl)), (1, .le 1 1), (1, .pf (∀ (i : Nat), i < 1 → 0 ≤ 0) (by intros; exact Nat.le_refl _)), (1, .pf (∀ (i e : Nat), i < 1 ∧ e < 0 → uP (fun (x : Nat) => Int.ofNat 0) 0 e = uP (fun (x : Nat) => Int.ofNat 0) 0 e) (by intros; rfl)), (1, .pf (∀ (i e : Nat), i < 1 ∧ e < 0 → uL (fun (x : Nat) => Int.ofNat 0) 0 e = uL (fun (x : Nat) => Int.ofNat 0) 0 e) (by intros; rfl)), (1, .pf (∀ (i e : Nat), i < 1 ∧ e < 0 → uD (fun (x : Nat) => Int.ofNat 0) 0 e = uD (fun (x : Nat) => Int.ofNat 0) 0 e) (by intros; rfl))]
    (V.need (∀ (i : Nat), i < 1 → 0 ≤ gd 1 (fun (x : Nat) => 0) i ∧ 0 ≤ gd 1 (fun (e : Nat) => x.snd.snd e) i)
    (nN [(1, .pf (∀ (i e : Nat), i < 1 ∧ e < 0 → cO (fun (x : Nat) => Int.ofNat 0) 0 i e = cO (fun (x : Nat) => Int.ofNat 0) 0 i e) (by intros; rfl)), (1, .pf (∀ (i e : Nat), i < 1 ∧ e < 0 → cA (fun (x : Nat) => Int.ofNat 0) 0 i e = cA (fun (x : Nat) => Int.ofNat 0) 0 i e) (by intros; rfl)), (1, .pf (∀ (i e : Nat), i < 1 ∧ e < 0 → cB (fun (x : Nat) => Int.ofNat 0) 0 i e = cB (fun (x : Nat) => Int.ofNat 0) 0 i e) (by intros; rfl))]
    (V.need (preTk (Cf.mk (Int.ofNat 1) (Int.ofNat 4) (Int.ofNat 1) (Int.ofNat 4) (Int.ofNat 4) (Int.ofNat 1) (Int.ofNat 1) (IntKind.i64.wrap (age.tmod (Int.ofNat 10))) (Int.ofNat 1) 1 x.fst 0 x.snd.fst (fun (e : Nat) => 0) (fun (e : Nat) => x.snd.snd e) (fun (i e : Nat) => cO (fun (x : Nat) => Int.ofNat 0) 0 i e) (fun (i e : Nat) => cA (fun (x : Nat) => Int.ofNat 0) 0 i e) (fun (i e : Nat) => cB (fun (x : Nat) => Int.ofNat 0) 0 i e) (fun (e : Nat) => uP (fun (x : Nat) => Int.ofNat 0) 0 e) (fun (e : Nat) => uL (fun (x : Nat) => Int.ofNat 0) 0 e) fun (e : Nat) => uD (fun (x : Nat) => Int.ofNat 0) 0 e) (IntKind.i64.wrap (task.tmod (Int.ofNat 4))) (Int.ofNat 4))
    (nN [(1, .pf (∃ (x_5 : Int), x_5 = lT (Cf.mk (Int.ofNat 1) (Int.ofNat 4) (Int.ofNat 1) (Int.ofNat 4) (Int.ofNat 4) (Int.ofNat 1) (Int.ofNat 1) (IntKind.i64.wrap (age.tmod (Int.ofNat 10))) (Int.ofNat 1) 1 x.fst 0 x.snd.fst (fun (e : Nat) => 0) (fun (e : Nat) => x.snd.snd e) (fun (i e : Nat) => cO (fun (x : Nat) => Int.ofNat 0) 0 i e) (fun (i e : Nat) => cA (fun (x : Nat) => Int.ofNat 0) 0 i e) (fun (i e : Nat) => cB (fun (x : Nat) => Int.ofNat 0) 0 i e) (fun (e : Nat) => uP (fun (x : Nat) => Int.ofNat 0) 0 e) (fun (e : Nat) => uL (fun (x : Nat) => Int.ofNat 0) 0 e) fun (e : Nat) => uD (fun (x : Nat) => Int.ofNat 0) 0 e) + IntKind.i64.wrap (task.tmod (Int.ofNat 4)) * Int.ofNat 5 + Int.ofNat 4) ⟨_, rfl⟩)]
    (V.any Int (fun (r : Int) => r = lT (Cf.mk (Int.ofNat 1) (Int.ofNat 4) (Int.ofNat 1) (Int.ofNat 4) (Int.ofNat 4) (Int.ofNat 1) (Int.ofNat 1) (IntKind.i64.wrap (age.tmod (Int.ofNat 10))) (Int.ofNat 1) 1 x.fst 0 x.snd.fst (fun (e : Nat) => 0) (fun (e : Nat) => x.snd.snd e) (fun (i e : Nat) => cO (fun (x : Nat) => Int.ofNat 0) 0 i e) (fun (i e : Nat) => cA (fun (x : Nat) => Int.ofNat 0) 0 i e) (fun (i e : Nat) => cB (fun (x : Nat) => Int.ofNat 0) 0 i e) (fun (e : Nat) => uP (fun (x : Nat) => Int.ofNat 0) 0 e) (fun (e : Nat) => uL (fun (x : Nat) => Int.ofNat 0) 0 e) fun (e : Nat) => uD (fun (x : Nat) => Int.ofNat 0) 0 e) + IntKind.i64.wrap (task.tmod (Int.ofNat 4)) * Int.ofNat 5 + Int.ofNat 4) fun (x : Int) => nN [(1, .pf (x = x) rfl), (1, .pf (x_2.fst.m.ct = x_2.fst.m.ct) rfl), (1, .le 1 1), (1, .le2 52 52 52 52), (1, .pf (∀ (i e : Nat), i = 0 ∧ e < 52 → x_2.fst.m.g e = x_2.fst.m.g e) (by intros; rfl)), (1, .pf (∃ (x_5 : Int), x_5 = (Mm.mk (fun (e : Nat) => x_2.fst.m.g e) x_2.fst.m.lk x_2.fst.m.lc x_2.fst.m.lo x_2.fst.m.ln x_2.fst.m.ct).val 52 x) ⟨_, rfl⟩)]
    (V.any Int (fun (v : Int) => v = (Mm.mk (fun (e : Nat) => x_2.fst.m.g e) x_2.fst.m.lk x_2.fst.m.lc x_2.fst.m.lo x_2.fst.m.ln x_2.fst.m.ct).val 52 x) fun (x : Int) => V.need ((x == IntKind.u64.wrap (IntKind.i64.wrap (since.tmod (Int.ofNat 20)))) = true) V.ok)))))))
    (V.bad 420))))))))
    (V.bad 420)))
    (nN [(17, .lt2 0 1 0 1), (2, .eq 52 52), (1, .le 1 1), (1, .pf (∀ (i : Nat), i < 1 → 52 ≤ 52) (by intros; exact Nat.le_refl _)), (1, .pf (∀ (i e : Nat), i < 1 ∧ e < 52 → x_2.fst.m.g e = x_2.fst.m.g e) (by intros; rfl)), (1, .le 52 1000000)]
    (V.need (∃ (x : Nat), 52 ≤ x)
    (V.any Nat (fun (c : Nat) => 52 ≤ c) fun (x_3 : Nat) => nN [(1, .eqI 1 1), (1, .eqI 4 4), (1, .eqI 1 1), (2, .eqI 4 4), (2, .eqI 1 1), (1, .pf (IntKind.i64.wrap (age.tmod (Int.ofNat 10)) = IntKind.i64.wrap (age.tmod (Int.ofNat 10))) rfl), (1, .eqI 1 1), (1, .eq 1 1), (1, .pf (x.fst = x.fst) rfl), (1, .eq 0 0), (1, .pf (x.snd.fst = x.snd.fst) rfl), (1, .eq 52 52), (1, .pf (x_3 = x_3) rfl), (1, .pf (IntKind.i64.wrap (IntKind.i64.wrap (level.tmod (Int.ofNat 4)) + Int.ofNat 1) = IntKind.i64.wrap (IntKind.i64.wrap (level.tmod (Int.ofNat 4)) + Int.ofNat 1)) rfl), (1, .le 1 1)]
    (V.need (1 ≤ 1 ∧ 1 ≤ x.fst)
    (nN [(1, .pf (∀ (i e : Nat), i = 0 ∧ e < 1 → e = e) (by intros; rfl)), (1, .pf (∀ (i e : Nat), i = 0 ∧ e < 1 → 0 = 0) (by intros; rfl)), (1, .pf (∀ (i e : Nat), i = 0 ∧ e < 1 → x.snd.snd e = x.snd.snd e) (by intros; rfl)), (1, .le 1 1)]
    (V.need (0 ≤ 0 ∧ 0 ≤ x.snd.fst)
    (nN [(1, .pf (∀ (i e : Nat), i = 0 ∧ e < 0 → uP (fun (x : Nat) => Int.ofNat 0) 0 e = uP (fun (x : Nat) => Int.ofNat 0) 0 e) (by intros; rfl)), (1, .pf (∀ (i e : Nat), i = 0 ∧ e < 0 → uL (fun (x : Nat) => Int.ofNat 0) 0 e = uL (fun (x : Nat) => Int.ofNat 0) 0 e) (by intros; rfl)), (1, .pf (∀ (i e : Nat), i = 0 ∧ e < 0 → uD (fun (x : Nat) => Int.ofNat 0) 0 e = uD (fun (x : Nat) => Int.ofNat 0) 0 e) (by intros; rfl))]
    (V.need (∀ (i : Nat), i < 1 → 0 ≤ gd 1 (fun (x : Nat) => 0) i ∧ 0 ≤ gd 1 (fun (e : Nat) => x.snd.snd e) i)
    (nN [(1, .pf (∀ (i e : Nat), i < 1 ∧ e < 0 → cO (fun (x : Nat) => Int.ofNat 0) 0 i e = cO (fun (x : Nat) => Int.ofNat 0) 0 i e) (by intros; rfl)), (1, .pf (∀ (i e : Nat), i < 1 ∧ e < 0 → cA (fun (x : Nat) => Int.ofNat 0) 0 i e = cA (fun (x : Nat) => Int.ofNat 0) 0 i e) (by intros; rfl)), (1, .pf (∀ (i e : Nat), i < 1 ∧ e < 0 → cB (fun (x : Nat) => Int.ofNat 0) 0 i e = cB (fun (x : Nat) => Int.ofNat 0) 0 i e) (by intros; rfl)), (1, .le 1 1)]
    (V.need (52 ≤ 52 ∧ 52 ≤ x_3)
    (nN [(1, .pf (∀ (i e : Nat), i = 0 ∧ e < 52 → x_2.fst.m.g e = x_2.fst.m.g e) (by intros; rfl))]
    (V.need (preEnt (Cf.mk (Int.ofNat 1) (Int.ofNat 4) (Int.ofNat 1) (Int.ofNat 4) (Int.ofNat 4) (Int.ofNat 1) (Int.ofNat 1) (IntKind.i64.wrap (age.tmod (Int.ofNat 10))) (Int.ofNat 1) 1 x.fst 0 x.snd.fst (fun (e : Nat) => 0) (fun (e : Nat) => x.snd.snd e) (fun (i e : Nat) => cO (fun (x : Nat) => Int.ofNat 0) 0 i e) (fun (i e : Nat) => cA (fun (x : Nat) => Int.ofNat 0) 0 i e) (fun (i e : Nat) => cB (fun (x : Nat) => Int.ofNat 0) 0 i e) (fun (e : Nat) => uP (fun (x : Nat) => Int.ofNat 0) 0 e) (fun (e : Nat) => uL (fun (x : Nat) => Int.ofNat 0) 0 e) fun (e : Nat) => uD (fun (x : Nat) => Int.ofNat 0) 0 e) 52 (fun (e : Nat) => x_2.fst.m.g e) (IntKind.i64.wrap (IntKind.i64.wrap (level.tmod (Int.ofNat 4)) + Int.ofNat 1)))
    (V.br (decide (Int.ofNat 1 ≤ entN (Cf.mk (Int.ofNat 1) (Int.ofNat 4) (Int.ofNat 1) (Int.ofNat 4) (Int.ofNat 4) (Int.ofNat 1) (Int.ofNat 1) (IntKind.i64.wrap (age.tmod (Int.ofNat 10))) (Int.ofNat 1) 1 x.fst 0 x.snd.fst (fun (e : Nat) => 0) (fun (e : Nat) => x.snd.snd e) (fun (i e : Nat) => cO (fun (x : Nat) => Int.ofNat 0) 0 i e) (fun (i e : Nat) => cA (fun (x : Nat) => Int.ofNat 0) 0 i e) (fun (i e : Nat) => cB (fun (x : Nat) => Int.ofNat 0) 0 i e) (fun (e : Nat) => uP (fun (x : Nat) => Int.ofNat 0) 0 e) (fun (e : Nat) => uL (fun (x : Nat) => Int.ofNat 0) 0 e) fun (e : Nat) => uD (fun (x : Nat) => Int.ofNat 0) 0 e) (fun (e : Nat) => x_2.fst.m.g e) (IntKind.i64.wrap (IntKind.i64.wrap (level.tmod (Int.ofNat 4)) + Int.ofNat 1)) ∧ entN (Cf.mk (Int.ofNat 1) (Int.ofNat 4) (Int.ofNat 1) (Int.ofNat 4) (Int.ofNat 4) (Int.ofNat 1) (Int.ofNat 1) (IntKind.i64.wrap (age.tmod (Int.ofNat 10))) (Int.ofNat 1) 1 x.fst 0 x.snd.fst (fun (e : Nat) => 0) (fun (e : Nat) => x.snd.snd e) (fun (i e : Nat) => cO (fun (x : Nat) => Int.ofNat 0) 0 i e) (fun (i e : Nat) => cA (fun (x : Nat) => Int.ofNat 0) 0 i e) (fun (i e : Nat) => cB (fun (x : Nat) => Int.ofNat 0) 0 i e) (fun (e : Nat) => uP (fun (x : Nat) => Int.ofNat 0) 0 e) (fun (e : Nat) => uL (fun (x : Nat) => Int.ofNat 0) 0 e) fun (e : Nat) => uD (fun (x : Nat) => Int.ofNat 0) 0 e) (fun (e : Nat) => x_2.fst.m.g e) (IntKind.i64.wrap (IntKind.i64.wrap (level.tmod (Int.ofNat 4)) + Int.ofNat 1)) ≤ Int.ofNat 4))
    (V.need (∃ (x_4 : Nat), (entN (Cf.mk (Int.ofNat 1) (Int.ofNat 4) (Int.ofNat 1) (Int.ofNat 4) (Int.ofNat 4) (Int.ofNat 1) (Int.ofNat 1) (IntKind.i64.wrap (age.tmod (Int.ofNat 10))) (Int.ofNat 1) 1 x.fst 0 x.snd.fst (fun (e : Nat) => 0) (fun (e : Nat) => x.snd.snd e) (fun (i e : Nat) => cO (fun (x : Nat) => Int.ofNat 0) 0 i e) (fun (i e : Nat) => cA (fun (x : Nat) => Int.ofNat 0) 0 i e) (fun (i e : Nat) => cB (fun (x : Nat) => Int.ofNat 0) 0 i e) (fun (e : Nat) => uP (fun (x : Nat) => Int.ofNat 0) 0 e) (fun (e : Nat) => uL (fun (x : Nat) => Int.ofNat 0) 0 e) fun (e : Nat) => uD (fun (x : Nat) => Int.ofNat 0) 0 e) (fun (e : Nat) => x_2.fst.m.g e) (IntKind.i64.wrap (IntKind.i64.wrap (level.tmod (Int.ofNat 4)) + Int.ofNat 1))).toNat ≤ x_4)
    (V.any Nat (fun (cp : Nat) => (entN (Cf.mk (Int.ofNat 1) (Int.ofNat 4) (Int.ofNat 1) (Int.ofNat 4) (Int.ofNat 4) (Int.ofNat 1) (Int.ofNat 1) (IntKind.i64.wrap (age.tmod (Int.ofNat 10))) (Int.ofNat 1) 1 x.fst 0 x.snd.fst (fun (e : Nat) => 0) (fun (e : Nat) => x.snd.snd e) (fun (i e : Nat) => cO (fun (x : Nat) => Int.ofNat 0) 0 i e) (fun (i e : Nat) => cA (fun (x : Nat) => Int.ofNat 0) 0 i e) (fun (i e : Nat) => cB (fun (x : Nat) => Int.ofNat 0) 0 i e) (fun (e : Nat) => uP (fun (x : Nat) => Int.ofNat 0) 0 e) (fun (e : Nat) => uL (fun (x : Nat) => Int.ofNat 0) 0 e) fun (e : Nat) => uD (fun (x : Nat) => Int.ofNat 0) 0 e) (fun (e : Nat) => x_2.fst.m.g e) (IntKind.i64.wrap (IntKind.i64.wrap (level.tmod (Int.ofNat 4)) + Int.ofNat 1))).toNat ≤ cp) fun (x_4 : Nat) => nN [(3, .lt2 0 1 0 1)]
    (V.br ((↑x_2.fst.l.n : Int) == Int.ofNat 1)
    (nN [(14, .lt2 0 1 0 1), (1, .eqI 1 1), (1, .eqI 4 4), (1, .eqI 1 1), (2, .eqI 4 4), (2, .eqI 1 1), (1, .pf (IntKind.i64.wrap (age.tmod (Int.ofNat 10)) = IntKind.i64.wrap (age.tmod (Int.ofNat 10))) rfl), (1, .eqI 1 1), (1, .eq 1 1), (1, .pf (x.fst = x.fst) rfl), (1, .eq 0 0), (1, .pf (x.snd.fst = x.snd.fst) rfl), (1, .pf (IntKind.i64.wrap (task.tmod (Int.ofNat 4)) = IntKind.i64.wrap (task.tmod (Int.ofNat 4))) rfl), (1, .eqI 1 1), (1, .le 1 1), (1, .pf (∀ (i : Nat), i < 1 → 1 ≤ 1) (by intros; exact Nat.le_refl _)), (1, .pf (∀ (i e : Nat), i < 1 ∧ e < 1 → e = e) (by intros; rfl)), (1, .pf (∀ (i e : Nat), i < 1 ∧ e < 1 → 0 = 0) (by intros; rfl)), (1, .pf (∀ (i e : Nat), i < 1 ∧ e < 1 → x.snd.snd e = x.snd.snd e) (by intros; rfl)), (1, .le 1 1), (1, .pf (∀ (i : Nat), i < 1 → 0 ≤ 0) (by intros; exact Nat.le_refl _)), (1, .pf (∀ (i e : Nat), i < 1 ∧ e < 0 → uP (fun (x : Nat) => Int.ofNat 0) 0 e = uP (fun (x : Nat) => Int.ofNat 0) 0 e) (by intros; rfl)), (1, .pf (∀ (i e : Nat), i < 1 ∧ e < 0 → uL (fun (x : Nat) => Int.ofNat 0) 0 e = uL (fun (x : Nat) => Int.ofNat 0) 0 e) (by intros; rfl)), (1, .pf (∀ (i e : Nat), i < 1 ∧ e < 0 → uD (fun (x : Nat) => Int.ofNat 0) 0 e = uD (fun (x : Nat) => Int.ofNat 0) 0 e) (by intros; rfl))]
    (V.need (∀ (i : Nat), i < 1 → 0 ≤ gd 1 (fun (x : Nat) => 0) i ∧ 0 ≤ gd 1 (fun (e : Nat) => x.snd.snd e) i)
    (nN [(1, .pf (∀ (i e : Nat), i < 1 ∧ e < 0 → cO (fun (x : Nat) => Int.ofNat 0) 0 i e = cO (fun (x : Nat) => Int.ofNat 0) 0 i e) (by intros; rfl)), (1, .pf (∀ (i e : Nat), i < 1 ∧ e < 0 → cA (fun (x : Nat) => Int.ofNat 0) 0 i e = cA (fun (x : Nat) => Int.ofNat 0) 0 i e) (by intros; rfl)), (1, .pf (∀ (i e : Nat), i < 1 ∧ e < 0 → cB (fun (x : Nat) => Int.ofNat 0) 0 i e = cB (fun (x : Nat) => Int.ofNat 0) 0 i e) (by intros; rfl))]
    (V.need (preTk (Cf.mk (Int.ofNat 1) (Int.ofNat 4) (Int.ofNat 1) (Int.ofNat 4) (Int.ofNat 4) (Int.ofNat 1) (Int.ofNat 1) (IntKind.i64.wrap (age.tmod (Int.ofNat 10))) (Int.ofNat 1) 1 x.fst 0 x.snd.fst (fun (e : Nat) => 0) (fun (e : Nat) => x.snd.snd e) (fun (i e : Nat) => cO (fun (x : Nat) => Int.ofNat 0) 0 i e) (fun (i e : Nat) => cA (fun (x : Nat) => Int.ofNat 0) 0 i e) (fun (i e : Nat) => cB (fun (x : Nat) => Int.ofNat 0) 0 i e) (fun (e : Nat) => uP (fun (x : Nat) => Int.ofNat 0) 0 e) (fun (e : Nat) => uL (fun (x : Nat) => Int.ofNat 0) 0 e) fun (e : Nat) => uD (fun (x : Nat) => Int.ofNat 0) 0 e) (IntKind.i64.wrap (task.tmod (Int.ofNat 4))) (Int.ofNat 1))
    (nN [(1, .pf (∃ (x_5 : Int), x_5 = lT (Cf.mk (Int.ofNat 1) (Int.ofNat 4) (Int.ofNat 1) (Int.ofNat 4) (Int.ofNat 4) (Int.ofNat 1) (Int.ofNat 1) (IntKind.i64.wrap (age.tmod (Int.ofNat 10))) (Int.ofNat 1) 1 x.fst 0 x.snd.fst (fun (e : Nat) => 0) (fun (e : Nat) => x.snd.snd e) (fun (i e : Nat) => cO (fun (x : Nat) => Int.ofNat 0) 0 i e) (fun (i e : Nat) => cA (fun (x : Nat) => Int.ofNat 0) 0 i e) (fun (i e : Nat) => cB (fun (x : Nat) => Int.ofNat 0) 0 i e) (fun (e : Nat) => uP (fun (x : Nat) => Int.ofNat 0) 0 e) (fun (e : Nat) => uL (fun (x : Nat) => Int.ofNat 0) 0 e) fun (e : Nat) => uD (fun (x : Nat) => Int.ofNat 0) 0 e) + IntKind.i64.wrap (task.tmod (Int.ofNat 4)) * Int.ofNat 5 + Int.ofNat 1) ⟨_, rfl⟩)]
    (V.any Int (fun (r : Int) => r = lT (Cf.mk (Int.ofNat 1) (Int.ofNat 4) (Int.ofNat 1) (Int.ofNat 4) (Int.ofNat 4) (Int.ofNat 1) (Int.ofNat 1) (IntKind.i64.wrap (age.tmod (Int.ofNat 10))) (Int.ofNat 1) 1 x.fst 0 x.snd.fst (fun (e : Nat) => 0) (fun (e : Nat) => x.snd.snd e) (fun (i e : Nat) => cO (fun (x : Nat) => Int.ofNat 0) 0 i e) (fun (i e : Nat) => cA (fun (x : Nat) => Int.ofNat 0) 0 i e) (fun (i e : Nat) => cB (fun (x : Nat) => Int.ofNat 0) 0 i e) (fun (e : Nat) => uP (fun (x : Nat) => Int.ofNat 0) 0 e) (fun (e : Nat) => uL (fun (x : Nat) => Int.ofNat 0) 0 e) fun (e : Nat) => uD (fun (x : Nat) => Int.ofNat 0) 0 e) + IntKind.i64.wrap (task.tmod (Int.ofNat 4)) * Int.ofNat 5 + Int.ofNat 1) fun (x_5 : Int) => nN [(1, .pf (x_5 = x_5) rfl), (1, .pf (x_2.fst.m.ct = x_2.fst.m.ct) rfl), (1, .le 1 1), (1, .le2 52 52 52 52), (1, .pf (∀ (i e : Nat), i = 0 ∧ e < 52 → x_2.fst.m.g e = x_2.fst.m.g e) (by intros; rfl)), (1, .pf (∃ (x : Int), x = (Mm.mk (fun (e : Nat) => x_2.fst.m.g e) x_2.fst.m.lk x_2.fst.m.lc x_2.fst.m.lo x_2.fst.m.ln x_2.fst.m.ct).val 52 x_5) ⟨_, rfl⟩)]
    (V.any Int (fun (v : Int) => v = (Mm.mk (fun (e : Nat) => x_2.fst.m.g e) x_2.fst.m.lk x_2.fst.m.lc x_2.fst.m.lo x_2.fst.m.ln x_2.fst.m.ct).val 52 x_5) fun (x_6 : Int) => V.br (x_6 == IntKind.u64.wrap (IntKind.i64.wrap (IntKind.i64.wrap (level.tmod (Int.ofNat 4)) + Int.ofNat 1)))
    (nN [(14, .lt2 0 1 0 1), (1, .eqI 1 1), (1, .eqI 4 4), (1, .eqI 1 1), (2, .eqI 4 4), (2, .eqI 1 1), (1, .pf (IntKind.i64.wrap (age.tmod (Int.ofNat 10)) = IntKind.i64.wrap (age.tmod (Int.ofNat 10))) rfl), (1, .eqI 1 1), (1, .eq 1 1), (1, .pf (x.fst = x.fst) rfl), (1, .eq 0 0), (1, .pf (x.snd.fst = x.snd.fst) rfl), (1, .pf (IntKind.i64.wrap (task.tmod (Int.ofNat 4)) = IntKind.i64.wrap (task.tmod (Int.ofNat 4))) rfl), (1, .eqI 4 4), (1, .le 1 1), (1, .pf (∀ (i : Nat), i < 1 → 1 ≤ 1) (by intros; exact Nat.le_refl _)), (1, .pf (∀ (i e : Nat), i < 1 ∧ e < 1 → e = e) (by intros; rfl)), (1, .pf (∀ (i e : Nat), i < 1 ∧ e < 1 → 0 = 0) (by intros; rfl)), (1, .pf (∀ (i e : Nat), i < 1 ∧ e < 1 → x.snd.snd e = x.snd.snd e) (by intros; rfl)), (1, .le 1 1), (1, .pf (∀ (i : Nat), i < 1 → 0 ≤ 0) (by intros; exact Nat.le_refl _)), (1, .pf (∀ (i e : Nat), i < 1 ∧ e < 0 → uP (fun (x : Nat) => Int.ofNat 0) 0 e = uP (fun (x : Nat) => Int.ofNat 0) 0 e) (by intros; rfl)), (1, .pf (∀ (i e : Nat), i < 1 ∧ e < 0 → uL (fun (x : Nat) => Int.ofNat 0) 0 e = uL (fun (x : Nat) => Int.ofNat 0) 0 e) (by intros; rfl)), (1, .pf (∀ (i e : Nat), i < 1 ∧ e < 0 → uD (fun (x : Nat) => Int.ofNat 0) 0 e = uD (fun (x : Nat) => Int.ofNat 0) 0 e) (by intros; rfl))]
    (V.need (∀ (i : Nat), i < 1 → 0 ≤ gd 1 (fun (x : Nat) => 0) i ∧ 0 ≤ gd 1 (fun (e : Nat) => x.snd.snd e) i)
    (nN [(1, .pf (∀ (i e : Nat), i < 1 ∧ e < 0 → cO (fun (x : Nat) => Int.ofNat 0) 0 i e = cO (fun (x : Nat) => Int.ofNat 0) 0 i e) (by intros; rfl)), (1, .pf (∀ (i e : Nat), i < 1 ∧ e < 0 → cA (fun (x : Nat) => Int.ofNat 0) 0 i e = cA (fun (x : Nat) => Int.ofNat 0) 0 i e) (by intros; rfl)), (1, .pf (∀ (i e : Nat), i < 1 ∧ e < 0 → cB (fun (x : Nat) => Int.ofNat 0) 0 i e = cB (fun (x : Nat) => Int.ofNat 0) 0 i e) (by intros; rfl))]
    (V.need (preTk (Cf.mk (Int.ofNat 1) (Int.ofNat 4) (Int.ofNat 1) (Int.ofNat 4) (Int.ofNat 4) (Int.ofNat 1) (Int.ofNat 1) (IntKind.i64.wrap (age.tmod (Int.ofNat 10))) (Int.ofNat 1) 1 x.fst 0 x.snd.fst (fun (e : Nat) => 0) (fun (e : Nat) => x.snd.snd e) (fun (i e : Nat) => cO (fun (x : Nat) => Int.ofNat 0) 0 i e) (fun (i e : Nat) => cA (fun (x : Nat) => Int.ofNat 0) 0 i e) (fun (i e : Nat) => cB (fun (x : Nat) => Int.ofNat 0) 0 i e) (fun (e : Nat) => uP (fun (x : Nat) => Int.ofNat 0) 0 e) (fun (e : Nat) => uL (fun (x : Nat) => Int.ofNat 0) 0 e) fun (e : Nat) => uD (fun (x : Nat) => Int.ofNat 0) 0 e) (IntKind.i64.wrap (task.tmod (Int.ofNat 4))) (Int.ofNat 4))
    (nN [(1, .pf (∃ (x_7 : Int), x_7 = lT (Cf.mk (Int.ofNat 1) (Int.ofNat 4) (Int.ofNat 1) (Int.ofNat 4) (Int.ofNat 4) (Int.ofNat 1) (Int.ofNat 1) (IntKind.i64.wrap (age.tmod (Int.ofNat 10))) (Int.ofNat 1) 1 x.fst 0 x.snd.fst (fun (e : Nat) => 0) (fun (e : Nat) => x.snd.snd e) (fun (i e : Nat) => cO (fun (x : Nat) => Int.ofNat 0) 0 i e) (fun (i e : Nat) => cA (fun (x : Nat) => Int.ofNat 0) 0 i e) (fun (i e : Nat) => cB (fun (x : Nat) => Int.ofNat 0) 0 i e) (fun (e : Nat) => uP (fun (x : Nat) => Int.ofNat 0) 0 e) (fun (e : Nat) => uL (fun (x : Nat) => Int.ofNat 0) 0 e) fun (e : Nat) => uD (fun (x : Nat) => Int.ofNat 0) 0 e) + IntKind.i64.wrap (task.tmod (Int.ofNat 4)) * Int.ofNat 5 + Int.ofNat 4) ⟨_, rfl⟩)]
    (V.any Int (fun (r : Int) => r = lT (Cf.mk (Int.ofNat 1) (Int.ofNat 4) (Int.ofNat 1) (Int.ofNat 4) (Int.ofNat 4) (Int.ofNat 1) (Int.ofNat 1) (IntKind.i64.wrap (age.tmod (Int.ofNat 10))) (Int.ofNat 1) 1 x.fst 0 x.snd.fst (fun (e : Nat) => 0) (fun (e : Nat) => x.snd.snd e) (fun (i e : Nat) => cO (fun (x : Nat) => Int.ofNat 0) 0 i e) (fun (i e : Nat) => cA (fun (x : Nat) => Int.ofNat 0) 0 i e) (fun (i e : Nat) => cB (fun (x : Nat) => Int.ofNat 0) 0 i e) (fun (e : Nat) => uP (fun (x : Nat) => Int.ofNat 0) 0 e) (fun (e : Nat) => uL (fun (x : Nat) => Int.ofNat 0) 0 e) fun (e : Nat) => uD (fun (x : Nat) => Int.ofNat 0) 0 e) + IntKind.i64.wrap (task.tmod (Int.ofNat 4)) * Int.ofNat 5 + Int.ofNat 4) fun (x_7 : Int) => nN [(1, .pf (x_7 = x_7) rfl), (1, .pf (x_2.fst.m.ct = x_2.fst.m.ct) rfl), (1, .le 1 1), (1, .le2 52 52 52 52), (1, .pf (∀ (i e : Nat), i = 0 ∧ e < 52 → x_2.fst.m.g e = x_2.fst.m.g e) (by intros; rfl)), (1, .pf (∃ (x : Int), x = (Mm.mk (fun (e : Nat) => x_2.fst.m.g e) x_2.fst.m.lk x_2.fst.m.lc x_2.fst.m.lo x_2.fst.m.ln x_2.fst.m.ct).val 52 x_7) ⟨_, rfl⟩)]
    (V.any Int (fun (v : Int) => v = (Mm.mk (fun (e : Nat) => x_2.fst.m.g e) x_2.fst.m.lk x_2.fst.m.lc x_2.fst.m.lo x_2.fst.m.ln x_2.fst.m.ct).val 52 x_7) fun (x_8 : Int) => V.br (x_8 == IntKind.u64.wrap (IntKind.i64.wrap (IntKind.i64.wrap (since.tmod (Int.ofNat 20)) + IntKind.i64.wrap (more.tmod (Int.ofNat 20)))))
    (V.br ((↑(entN (Cf.mk (Int.ofNat 1) (Int.ofNat 4) (Int.ofNat 1) (Int.ofNat 4) (Int.ofNat 4) (Int.ofNat 1) (Int.ofNat 1) (IntKind.i64.wrap (age.tmod (Int.ofNat 10))) (Int.ofNat 1) 1 x.fst 0 x.snd.fst (fun (e : Nat) => 0) (fun (e : Nat) => x.snd.snd e) (fun (i e : Nat) => cO (fun (x : Nat) => Int.ofNat 0) 0 i e) (fun (i e : Nat) => cA (fun (x : Nat) => Int.ofNat 0) 0 i e) (fun (i e : Nat) => cB (fun (x : Nat) => Int.ofNat 0) 0 i e) (fun (e : Nat) => uP (fun (x : Nat) => Int.ofNat 0) 0 e) (fun (e : Nat) => uL (fun (x : Nat) => Int.ofNat 0) 0 e) fun (e : Nat) => uD (fun (x : Nat) => Int.ofNat 0) 0 e) (fun (e : Nat) => x_2.fst.m.g e) (IntKind.i64.wrap (IntKind.i64.wrap (level.tmod (Int.ofNat 4)) + Int.ofNat 1))).toNat : Int) == Int.ofNat 1)
    (V.need (Int.ofNat 0 ≤ Int.ofNat 0 ∧ Int.ofNat 0 < (↑(entN (Cf.mk (Int.ofNat 1) (Int.ofNat 4) (Int.ofNat 1) (Int.ofNat 4) (Int.ofNat 4) (Int.ofNat 1) (Int.ofNat 1) (IntKind.i64.wrap (age.tmod (Int.ofNat 10))) (Int.ofNat 1) 1 x.fst 0 x.snd.fst (fun (e : Nat) => 0) (fun (e : Nat) => x.snd.snd e) (fun (i e : Nat) => cO (fun (x : Nat) => Int.ofNat 0) 0 i e) (fun (i e : Nat) => cA (fun (x : Nat) => Int.ofNat 0) 0 i e) (fun (i e : Nat) => cB (fun (x : Nat) => Int.ofNat 0) 0 i e) (fun (e : Nat) => uP (fun (x : Nat) => Int.ofNat 0) 0 e) (fun (e : Nat) => uL (fun (x : Nat) => Int.ofNat 0) 0 e) fun (e : Nat) => uD (fun (x : Nat) => Int.ofNat 0) 0 e) (fun (e : Nat) => x_2.fst.m.g e) (IntKind.i64.wrap (IntKind.i64.wrap (level.tmod (Int.ofNat 4)) + Int.ofNat 1))).toNat : Int))
    (V.need (0 < 1 ∧ 0 < (entN (Cf.mk (Int.ofNat 1) (Int.ofNat 4) (Int.ofNat 1) (Int.ofNat 4) (Int.ofNat 4) (Int.ofNat 1) (Int.ofNat 1) (IntKind.i64.wrap (age.tmod (Int.ofNat 10))) (Int.ofNat 1) 1 x.fst 0 x.snd.fst (fun (e : Nat) => 0) (fun (e : Nat) => x.snd.snd e) (fun (i e : Nat) => cO (fun (x : Nat) => Int.ofNat 0) 0 i e) (fun (i e : Nat) => cA (fun (x : Nat) => Int.ofNat 0) 0 i e) (fun (i e : Nat) => cB (fun (x : Nat) => Int.ofNat 0) 0 i e) (fun (e : Nat) => uP (fun (x : Nat) => Int.ofNat 0) 0 e) (fun (e : Nat) => uL (fun (x : Nat) => Int.ofNat 0) 0 e) fun (e : Nat) => uD (fun (x : Nat) => Int.ofNat 0) 0 e) (fun (e : Nat) => x_2.fst.m.g e) (IntKind.i64.wrap (IntKind.i64.wrap (level.tmod (Int.ofNat 4)) + Int.ofNat 1))).toNat)
    (V.need (0 < 1 ∧ 0 < (entN (Cf.mk (Int.ofNat 1) (Int.ofNat 4) (Int.ofNat 1) (Int.ofNat 4) (Int.ofNat 4) (Int.ofNat 1) (Int.ofNat 1) (IntKind.i64.wrap (age.tmod (Int.ofNat 10))) (Int.ofNat 1) 1 x.fst 0 x.snd.fst (fun (e : Nat) => 0) (fun (e : Nat) => x.snd.snd e) (fun (i e : Nat) => cO (fun (x : Nat) => Int.ofNat 0) 0 i e) (fun (i e : Nat) => cA (fun (x : Nat) => Int.ofNat 0) 0 i e) (fun (i e : Nat) => cB (fun (x : Nat) => Int.ofNat 0) 0 i e) (fun (e : Nat) => uP (fun (x : Nat) => Int.ofNat 0) 0 e) (fun (e : Nat) => uL (fun (x : Nat) => Int.ofNat 0) 0 e) fun (e : Nat) => uD (fun (x : Nat) => Int.ofNat 0) 0 e) (fun (e : Nat) => x_2.fst.m.g e) (IntKind.i64.wrap (IntKind.i64.wrap (level.tmod (Int.ofNat 4)) + Int.ofNat 1))).toNat)
    (V.need ((entE (Cf.mk (Int.ofNat 1) (Int.ofNat 4) (Int.ofNat 1) (Int.ofNat 4) (Int.ofNat 4) (Int.ofNat 1) (Int.ofNat 1) (IntKind.i64.wrap (age.tmod (Int.ofNat 10))) (Int.ofNat 1) 1 x.fst 0 x.snd.fst (fun (e : Nat) => 0) (fun (e : Nat) => x.snd.snd e) (fun (i e : Nat) => cO (fun (x : Nat) => Int.ofNat 0) 0 i e) (fun (i e : Nat) => cA (fun (x : Nat) => Int.ofNat 0) 0 i e) (fun (i e : Nat) => cB (fun (x : Nat) => Int.ofNat 0) 0 i e) (fun (e : Nat) => uP (fun (x : Nat) => Int.ofNat 0) 0 e) (fun (e : Nat) => uL (fun (x : Nat) => Int.ofNat 0) 0 e) fun (e : Nat) => uD (fun (x : Nat) => Int.ofNat 0) 0 e) (fun (e : Nat) => x_2.fst.m.g e) (IntKind.i64.wrap (IntKind.i64.wrap (level.tmod (Int.ofNat 4)) + Int.ofNat 1)) 0 == IntKind.i64.wrap (task.tmod (Int.ofNat 4))) = true) V.ok))))
    (V.bad 420))
    (V.bad 420))))))))
    (V.bad 420))))))))
    (V.bad 420))))
    (nN [(3, .lt2 0 1 0 1)]
    (V.br ((↑x_2.fst.l.n : Int) == Int.ofNat 1)
    (nN [(14, .lt2 0 1 0 1), (1, .eqI 1 1), (1, .eqI 4 4), (1, .eqI 1 1), (2, .eqI 4 4), (2, .eqI 1 1), (1, .pf (IntKind.i64.wrap (age.tmod (Int.ofNat 10)) = IntKind.i64.wrap (age.tmod (Int.ofNat 10))) rfl), (1, .eqI 1 1), (1, .eq 1 1), (1, .pf (x.fst = x.fst) rfl), (1, .eq 0 0), (1, .pf (x.snd.fst = x.snd.fst) rfl), (1, .pf (IntKind.i64.wrap (task.tmod (Int.ofNat 4)) = IntKind.i64.wrap (task.tmod (Int.ofNat 4))) rfl), (1, .eqI 1 1), (1, .le 1 1), (1, .pf (∀ (i : Nat), i < 1 → 1 ≤ 1) (by intros; exact Nat.le_refl _)), (1, .pf (∀ (i e : Nat), i < 1 ∧ e < 1 → e = e) (by intros; rfl)), (1, .pf (∀ (i e : Nat), i < 1 ∧ e < 1 → 0 = 0) (by intros; rfl)), (1, .pf (∀ (i e : Nat), i < 1 ∧ e < 1 → x.snd.snd e = x.snd.snd e) (by intros; rfl)), (1, .le 1 1), (1, .pf (∀ (i : Nat), i < 1 → 0 ≤ 0) (by intros; exact Nat.le_refl _)), (1, .pf (∀ (i e : Nat), i < 1 ∧ e < 0 → uP (fun (x : Nat) => Int.ofNat 0) 0 e = uP (fun (x : Nat) => Int.ofNat 0) 0 e) (by intros; rfl)), (1, .pf (∀ (i e : Nat), i < 1 ∧ e < 0 → uL (fun (x : Nat) => Int.ofNat 0) 0 e = uL (fun (x : Nat) => Int.ofNat 0) 0 e) (by intros; rfl)), (1, .pf (∀ (i e : Nat), i < 1 ∧ e < 0 → uD (fun (x : Nat) => Int.ofNat 0) 0 e = uD (fun (x : Nat) => Int.ofNat 0) 0 e) (by intros; rfl))]
    (V.need (∀ (i : Nat), i < 1 → 0 ≤ gd 1 (fun (x : Nat) => 0) i ∧ 0 ≤ gd 1 (fun (e : Nat) => x.snd.snd e) i)
    (nN [(1, .pf (∀ (i e : Nat), i < 1 ∧ e < 0 → cO (fun (x : Nat) => Int.ofNat 0) 0 i e = cO (fun (x : Nat) => Int.ofNat 0) 0 i e) (by intros; rfl)), (1, .pf (∀ (i e : Nat), i < 1 ∧ e < 0 → cA (fun (x : Nat) => Int.ofNat 0) 0 i e = cA (fun (x : Nat) => Int.ofNat 0) 0 i e) (by intros; rfl)), (1, .pf (∀ (i e : Nat), i < 1 ∧ e < 0 → cB (fun (x : Nat) => Int.ofNat 0) 0 i e = cB (fun (x : Nat) => Int.ofNat 0) 0 i e) (by intros; rfl))]
    (V.need (preTk (Cf.mk (Int.ofNat 1) (Int.ofNat 4) (Int.ofNat 1) (Int.ofNat 4) (Int.ofNat 4) (Int.ofNat 1) (Int.ofNat 1) (IntKind.i64.wrap (age.tmod (Int.ofNat 10))) (Int.ofNat 1) 1 x.fst 0 x.snd.fst (fun (e : Nat) => 0) (fun (e : Nat) => x.snd.snd e) (fun (i e : Nat) => cO (fun (x : Nat) => Int.ofNat 0) 0 i e) (fun (i e : Nat) => cA (fun (x : Nat) => Int.ofNat 0) 0 i e) (fun (i e : Nat) => cB (fun (x : Nat) => Int.ofNat 0) 0 i e) (fun (e : Nat) => uP (fun (x : Nat) => Int.ofNat 0) 0 e) (fun (e : Nat) => uL (fun (x : Nat) => Int.ofNat 0) 0 e) fun (e : Nat) => uD (fun (x : Nat) => Int.ofNat 0) 0 e) (IntKind.i64.wrap (task.tmod (Int.ofNat 4))) (Int.ofNat 1))
    (nN [(1, .pf (∃ (x_4 : Int), x_4 = lT (Cf.mk (Int.ofNat 1) (Int.ofNat 4) (Int.ofNat 1) (Int.ofNat 4) (Int.ofNat 4) (Int.ofNat 1) (Int.ofNat 1) (IntKind.i64.wrap (age.tmod (Int.ofNat 10))) (Int.ofNat 1) 1 x.fst 0 x.snd.fst (fun (e : Nat) => 0) (fun (e : Nat) => x.snd.snd e) (fun (i e : Nat) => cO (fun (x : Nat) => Int.ofNat 0) 0 i e) (fun (i e : Nat) => cA (fun (x : Nat) => Int.ofNat 0) 0 i e) (fun (i e : Nat) => cB (fun (x : Nat) => Int.ofNat 0) 0 i e) (fun (e : Nat) => uP (fun (x : Nat) => Int.ofNat 0) 0 e) (fun (e : Nat) => uL (fun (x : Nat) => Int.ofNat 0) 0 e) fun (e : Nat) => uD (fun (x : Nat) => Int.ofNat 0) 0 e) + IntKind.i64.wrap (task.tmod (Int.ofNat 4)) * Int.ofNat 5 + Int.ofNat 1) ⟨_, rfl⟩)]
    (V.any Int (fun (r : Int) => r = lT (Cf.mk (Int.ofNat 1) (Int.ofNat 4) (Int.ofNat 1) (Int.ofNat 4) (Int.ofNat 4) (Int.ofNat 1) (Int.ofNat 1) (IntKind.i64.wrap (age.tmod (Int.ofNat 10))) (Int.ofNat 1) 1 x.fst 0 x.snd.fst (fun (e : Nat) => 0) (fun (e : Nat) => x.snd.snd e) (fun (i e : Nat) => cO (fun (x : Nat) => Int.ofNat 0) 0 i e) (fun (i e : Nat) => cA (fun (x : Nat) => Int.ofNat 0) 0 i e) (fun (i e : Nat) => cB (fun (x : Nat) => Int.ofNat 0) 0 i e) (fun (e : Nat) => uP (fun (x : Nat) => Int.ofNat 0) 0 e) (fun (e : Nat) => uL (fun (x : Nat) => Int.ofNat 0) 0 e) fun (e : Nat) => uD (fun (x : Nat) => Int.ofNat 0) 0 e) + IntKind.i64.wrap (task.tmod (Int.ofNat 4)) * Int.ofNat 5 + Int.ofNat 1) fun (x_4 : Int) => nN [(1, .pf (x_4 = x_4) rfl), (1, .pf (x_2.fst.m.ct = x_2.fst.m.ct) rfl), (1, .le 1 1), (1, .le2 52 52 52 52), (1, .pf (∀ (i e : Nat), i = 0 ∧ e < 52 → x_2.fst.m.g e = x_2.fst.m.g e) (by intros; rfl)), (1, .pf (∃ (x : Int), x = (Mm.mk (fun (e : Nat) => x_2.fst.m.g e) x_2.fst.m.lk x_2.fst.m.lc x_2.fst.m.lo x_2.fst.m.ln x_2.fst.m.ct).val 52 x_4) ⟨_, rfl⟩)]
    (V.any Int (fun (v : Int) => v = (Mm.mk (fun (e : Nat) => x_2.fst.m.g e) x_2.fst.m.lk x_2.fst.m.lc x_2.fst.m.lo x_2.fst.m.ln x_2.fst.m.ct).val 52 x_4) fun (x_5 : Int) => V.br (x_5 == IntKind.u64.wrap (IntKind.i64.wrap (IntKind.i64.wrap (level.tmod (Int.ofNat 4)) + Int.ofNat 1)))
    (nN [(14, .lt2 0 1 0 1), (1, .eqI 1 1), (1, .eqI 4 4), (1, .eqI 1 1), (2, .eqI 4 4), (2, .eqI 1 1), (1, .pf (IntKind.i64.wrap (age.tmod (Int.ofNat 10)) = IntKind.i64.wrap (age.tmod (Int.ofNat 10))) rfl), (1, .eqI 1 1), (1, .eq 1 1), (1, .pf (x.fst = x.fst) rfl), (1, .eq 0 0), (1, .pf (x.snd.fst = x.snd.fst) rfl), (1, .pf (IntKind.i64.wrap (task.tmod (Int.ofNat 4)) = IntKind.i64.wrap (task.tmod (Int.ofNat 4))) rfl), (1, .eqI 4 4), (1, .le 1 1), (1, .pf (∀ (i : Nat), i < 1 → 1 ≤ 1) (by intros; exact Nat.le_refl _)), (1, .pf (∀ (i e : Nat), i < 1 ∧ e < 1 → e = e) (by intros; rfl)), (1, .pf (∀ (i e : Nat), i < 1 ∧ e < 1 → 0 = 0) (by intros; rfl)), (1, .pf (∀ (i e : Nat), i < 1 ∧ e < 1 → x.snd.snd e = x.snd.snd e) (by intros; rfl)), (1, .le 1 1), (1, .pf (∀ (i : Nat), i < 1 → 0 ≤ 0) (by intros; exact Nat.le_refl _)), (1, .pf (∀ (i e : Nat), i < 1 ∧ e < 0 → uP (fun (x : Nat) => Int.ofNat 0) 0 e = uP (fun (x : Nat) => Int.ofNat 0) 0 e) (by intros; rfl)), (1, .pf (∀ (i e : Nat), i < 1 ∧ e < 0 → uL (fun (x : Nat) => Int.ofNat 0) 0 e = uL (fun (x : Nat) => Int.ofNat 0) 0 e) (by intros; rfl)), (1, .pf (∀ (i e : Nat), i < 1 ∧ e < 0 → uD (fun (x : Nat) => Int.ofNat 0) 0 e = uD (fun (x : Nat) => Int.ofNat 0) 0 e) (by intros; rfl))]
    (V.need (∀ (i : Nat), i < 1 → 0 ≤ gd 1 (fun (x : Nat) => 0) i ∧ 0 ≤ gd 1 (fun (e : Nat) => x.snd.snd e) i)
    (nN [(1, .pf (∀ (i e : Nat), i < 1 ∧ e < 0 → cO (fun (x : Nat) => Int.ofNat 0) 0 i e = cO (fun (x : Nat) => Int.ofNat 0) 0 i e) (by intros; rfl)), (1, .pf (∀ (i e : Nat), i < 1 ∧ e < 0 → cA (fun (x : Nat) => Int.ofNat 0) 0 i e = cA (fun (x : Nat) => Int.ofNat 0) 0 i e) (by intros; rfl)), (1, .pf (∀ (i e : Nat), i < 1 ∧ e < 0 → cB (fun (x : Nat) => Int.ofNat 0) 0 i e = cB (fun (x : Nat) => Int.ofNat 0) 0 i e) (by intros; rfl))]
    (V.need (preTk (Cf.mk (Int.ofNat 1) (Int.ofNat 4) (Int.ofNat 1) (Int.ofNat 4) (Int.ofNat 4) (Int.ofNat 1) (Int.ofNat 1) (IntKind.i64.wrap (age.tmod (Int.ofNat 10))) (Int.ofNat 1) 1 x.fst 0 x.snd.fst (fun (e : Nat) => 0) (fun (e : Nat) => x.snd.snd e) (fun (i e : Nat) => cO (fun (x : Nat) => Int.ofNat 0) 0 i e) (fun (i e : Nat) => cA (fun (x : Nat) => Int.ofNat 0) 0 i e) (fun (i e : Nat) => cB (fun (x : Nat) => Int.ofNat 0) 0 i e) (fun (e : Nat) => uP (fun (x : Nat) => Int.ofNat 0) 0 e) (fun (e : Nat) => uL (fun (x : Nat) => Int.ofNat 0) 0 e) fun (e : Nat) => uD (fun (x : Nat) => Int.ofNat 0) 0 e) (IntKind.i64.wrap (task.tmod (Int.ofNat 4))) (Int.ofNat 4))
    (nN [(1, .pf (∃ (x_6 : Int), x_6 = lT (Cf.mk (Int.ofNat 1) (Int.ofNat 4) (Int.ofNat 1) (Int.ofNat 4) (Int.ofNat 4) (Int.ofNat 1) (Int.ofNat 1) (IntKind.i64.wrap (age.tmod (Int.ofNat 10))) (Int.ofNat 1) 1 x.fst 0 x.snd.fst (fun (e : Nat) => 0) (fun (e : Nat) => x.snd.snd e) (fun (i e : Nat) => cO (fun (x : Nat) => Int.ofNat 0) 0 i e) (fun (i e : Nat) => cA (fun (x : Nat) => Int.ofNat 0) 0 i e) (fun (i e : Nat) => cB (fun (x : Nat) => Int.ofNat 0) 0 i e) (fun (e : Nat) => uP (fun (x : Nat) => Int.ofNat 0) 0 e) (fun (e : Nat) => uL (fun (x : Nat) => Int.ofNat 0) 0 e) fun (e : Nat) => uD (fun (x : Nat) => Int.ofNat 0) 0 e) + IntKind.i64.wrap (task.tmod (Int.ofNat 4)) * Int.ofNat 5 + Int.ofNat 4) ⟨_, rfl⟩)]
    (V.any Int (fun (r : Int) => r = lT (Cf.mk (Int.ofNat 1) (Int.ofNat 4) (Int.ofNat 1) (Int.ofNat 4) (Int.ofNat 4) (Int.ofNat 1) (Int.ofNat 1) (IntKind.i64.wrap (age.tmod (Int.ofNat 10))) (Int.ofNat 1) 1 x.fst 0 x.snd.fst (fun (e : Nat) => 0) (fun (e : Nat) => x.snd.snd e) (fun (i e : Nat) => cO (fun (x : Nat) => Int.ofNat 0) 0 i e) (fun (i e : Nat) => cA (fun (x : Nat) => Int.ofNat 0) 0 i e) (fun (i e : Nat) => cB (fun (x : Nat) => Int.ofNat 0) 0 i e) (fun (e : Nat) => uP (fun (x : Nat) => Int.ofNat 0) 0 e) (fun (e : Nat) => uL (fun (x : Nat) => Int.ofNat 0) 0 e) fun (e : Nat) => uD (fun (x : Nat) => Int.ofNat 0) 0 e) + IntKind.i64.wrap (task.tmod (Int.ofNat 4)) * Int.ofNat 5 + Int.ofNat 4) fun (x : Int) => nN [(1, .pf (x = x) rfl), (1, .pf (x_2.fst.m.ct = x_2.fst.m.ct) rfl), (1, .le 1 1), (1, .le2 52 52 52 52), (1, .pf (∀ (i e : Nat), i = 0 ∧ e < 52 → x_2.fst.m.g e = x_2.fst.m.g e) (by intros; rfl)), (1, .pf (∃ (x_6 : Int), x_6 = (Mm.mk (fun (e : Nat) => x_2.fst.m.g e) x_2.fst.m.lk x_2.fst.m.lc x_2.fst.m.lo x_2.fst.m.ln x_2.fst.m.ct).val 52 x) ⟨_, rfl⟩)]
    (V.any Int (fun (v : Int) => v = (Mm.mk (fun (e : Nat) => x_2.fst.m.g e) x_2.fst.m.lk x_2.fst.m.lc x_2.fst.m.lo x_2.fst.m.ln x_2.fst.m.ct).val 52 x) fun (x : Int) => V.br (x == IntKind.u64.wrap (IntKind.i64.wrap (IntKind.i64.wrap (since.tmod (Int.ofNat 20)) + IntKind.i64.wrap (more.tmod (Int.ofNat 20)))))
    (V.bad 420)
    (V.bad 420))))))))
    (V.bad 420))))))))
    (V.bad 420)))))))))))))))))
    (nN [(3, .lt2 0 1 0 1)]
    (V.br ((↑x_2.fst.l.n : Int) == Int.ofNat 0)
    (nN [(14, .lt2 0 1 0 1), (1, .eqI 1 1), (1, .eqI 4 4), (1, .eqI 1 1), (2, .eqI 4 4), (2, .eqI 1 1), (1, .pf (IntKind.i64.wrap (age.tmod (Int.ofNat 10)) = IntKind.i64.wrap (age.tmod (Int.ofNat 10))) rfl), (1, .eqI 1 1), (1, .eq 1 1), (1, .pf (x.fst = x.fst) rfl), (1, .eq 0 0), (1, .pf (x.snd.fst = x.snd.fst) rfl), (1, .pf (IntKind.i64.wrap (task.tmod (Int.ofNat 4)) = IntKind.i64.wrap (task.tmod (Int.ofNat 4))) rfl), (1, .eqI 1 1), (1, .le 1 1), (1, .pf (∀ (i : Nat), i < 1 → 1 ≤ 1) (by intros; exact Nat.le_refl _)), (1, .pf (∀ (i e : Nat), i < 1 ∧ e < 1 → e = e) (by intros; rfl)), (1, .pf (∀ (i e : Nat), i < 1 ∧ e < 1 → 0 = 0) (by intros; rfl)), (1, .pf (∀ (i e : Nat), i < 1 ∧ e < 1 → x.snd.snd e = x.snd.snd e) (by intros; rfl)), (1, .le 1 1), (1, .pf (∀ (i : Nat), i < 1 → 0 ≤ 0) (by intros; exact Nat.le_refl _)), (1, .pf (∀ (i e : Nat), i < 1 ∧ e < 0 → uP (fun (x : Nat) => Int.ofNat 0) 0 e = uP (fun (x : Nat) => Int.ofNat 0) 0 e) (by intros; rfl)), (1, .pf (∀ (i e : Nat), i < 1 ∧ e < 0 → uL (fun (x : Nat) => Int.ofNat 0) 0 e = uL (fun (x : Nat) => Int.ofNat 0) 0 e) (by intros; rfl)), (1, .pf (∀ (i e : Nat), i < 1 ∧ e < 0 → uD (fun (x : Nat) => Int.ofNat 0) 0 e = uD (fun (x : Nat) => Int.ofNat 0) 0 e) (by intros; rfl))]
    (V.need (∀ (i : Nat), i < 1 → 0 ≤ gd 1 (fun (x : Nat) => 0) i ∧ 0 ≤ gd 1 (fun (e : Nat) => x.snd.snd e) i)
    (nN [(1, .pf (∀ (i e : Nat), i < 1 ∧ e < 0 → cO (fun (x : Nat) => Int.ofNat 0) 0 i e = cO (fun (x : Nat) => Int.ofNat 0) 0 i e) (by intros; rfl)), (1, .pf (∀ (i e : Nat), i < 1 ∧ e < 0 → cA (fun (x : Nat) => Int.ofNat 0) 0 i e = cA (fun (x : Nat) => Int.ofNat 0) 0 i e) (by intros; rfl)), (1, .pf (∀ (i e : Nat), i < 1 ∧ e < 0 → cB (fun (x : Nat) => Int.ofNat 0) 0 i e = cB (fun (x : Nat) => Int.ofNat 0) 0 i e) (by intros; rfl))]
    (V.need (preTk (Cf.mk (Int.ofNat 1) (Int.ofNat 4) (Int.ofNat 1) (Int.ofNat 4) (Int.ofNat 4) (Int.ofNat 1) (Int.ofNat 1) (IntKind.i64.wrap (age.tmod (Int.ofNat 10))) (Int.ofNat 1) 1 x.fst 0 x.snd.fst (fun (e : Nat) => 0) (fun (e : Nat) => x.snd.snd e) (fun (i e : Nat) => cO (fun (x : Nat) => Int.ofNat 0) 0 i e) (fun (i e : Nat) => cA (fun (x : Nat) => Int.ofNat 0) 0 i e) (fun (i e : Nat) => cB (fun (x : Nat) => Int.ofNat 0) 0 i e) (fun (e : Nat) => uP (fun (x : Nat) => Int.ofNat 0) 0 e) (fun (e : Nat) => uL (fun (x : Nat) => Int.ofNat 0) 0 e) fun (e : Nat) => uD (fun (x : Nat) => Int.ofNat 0) 0 e) (IntKind.i64.wrap (task.tmod (Int.ofNat 4))) (Int.ofNat 1))
    (nN [(1, .pf (∃ (x_3 : Int), x_3 = lT (Cf.mk (Int.ofNat 1) (Int.ofNat 4) (Int.ofNat 1) (Int.ofNat 4) (Int.ofNat 4) (Int.ofNat 1) (Int.ofNat 1) (IntKind.i64.wrap (age.tmod (Int.ofNat 10))) (Int.ofNat 1) 1 x.fst 0 x.snd.fst (fun (e : Nat) => 0) (fun (e : Nat) => x.snd.snd e) (fun (i e : Nat) => cO (fun (x : Nat) => Int.ofNat 0) 0 i e) (fun (i e : Nat) => cA (fun (x : Nat) => Int.ofNat 0) 0 i e) (fun (i e : Nat) => cB (fun (x : Nat) => Int.ofNat 0) 0 i e) (fun (e : Nat) => uP (fun (x : Nat) => Int.ofNat 0) 0 e) (fun (e : Nat) => uL (fun (x : Nat) => Int.ofNat 0) 0 e) fun (e : Nat) => uD (fun (x : Nat) => Int.ofNat 0) 0 e) + IntKind.i64.wrap (task.tmod (Int.ofNat 4)) * Int.ofNat 5 + Int.ofNat 1) ⟨_, rfl⟩)]
    (V.any Int (fun (r : Int) => r = lT (Cf.mk (Int.ofNat 1) (Int.ofNat 4) (Int.ofNat 1) (Int.ofNat 4) (Int.ofNat 4) (Int.ofNat 1) (Int.ofNat 1) (IntKind.i64.wrap (age.tmod (Int.ofNat 10))) (Int.ofNat 1) 1 x.fst 0 x.snd.fst (fun (e : Nat) => 0) (fun (e : Nat) => x.snd.snd e) (fun (i e : Nat) => cO (fun (x : Nat) => Int.ofNat 0) 0 i e) (fun (i e : Nat) => cA (fun (x : Nat) => Int.ofNat 0) 0 i e) (fun (i e : Nat) => cB (fun (x : Nat) => Int.ofNat 0) 0 i e) (fun (e : Nat) => uP (fun (x : Nat) => Int.ofNat 0) 0 e) (fun (e : Nat) => uL (fun (x : Nat) => Int.ofNat 0) 0 e) fun (e : Nat) => uD (fun (x : Nat) => Int.ofNat 0) 0 e) + IntKind.i64.wrap (task.tmod (Int.ofNat 4)) * Int.ofNat 5 + Int.ofNat 1) fun (x_3 : Int) => nN [(1, .pf (x_3 = x_3) rfl), (1, .pf (x_2.fst.m.ct = x_2.fst.m.ct) rfl), (1, .le 1 1), (1, .le2 52 52 52 52), (1, .pf (∀ (i e : Nat), i = 0 ∧ e < 52 → x_2.fst.m.g e = x_2.fst.m.g e) (by intros; rfl)), (1, .pf (∃ (x : Int), x = (Mm.mk (fun (e : Nat) => x_2.fst.m.g e) x_2.fst.m.lk x_2.fst.m.lc x_2.fst.m.lo x_2.fst.m.ln x_2.fst.m.ct).val 52 x_3) ⟨_, rfl⟩)]
    (V.any Int (fun (v : Int) => v = (Mm.mk (fun (e : Nat) => x_2.fst.m.g e) x_2.fst.m.lk x_2.fst.m.lc x_2.fst.m.lo x_2.fst.m.ln x_2.fst.m.ct).val 52 x_3) fun (x_4 : Int) => V.br (x_4 == IntKind.u64.wrap (IntKind.i64.wrap (level.tmod (Int.ofNat 4))))
    (nN [(14, .lt2 0 1 0 1), (1, .eqI 1 1), (1, .eqI 4 4), (1, .eqI 1 1), (2, .eqI 4 4), (2, .eqI 1 1), (1, .pf (IntKind.i64.wrap (age.tmod (Int.ofNat 10)) = IntKind.i64.wrap (age.tmod (Int.ofNat 10))) rfl), (1, .eqI 1 1), (1, .eq 1 1), (1, .pf (x.fst = x.fst) rfl), (1, .eq 0 0), (1, .pf (x.snd.fst = x.snd.fst) rfl), (1, .pf (IntKind.i64.wrap (task.tmod (Int.ofNat 4)) = IntKind.i64.wrap (task.tmod (Int.ofNat 4))) rfl), (1, .eqI 4 4), (1, .le 1 1), (1, .pf (∀ (i : Nat), i < 1 → 1 ≤ 1) (by intros; exact Nat.le_refl _)), (1, .pf (∀ (i e : Nat), i < 1 ∧ e < 1 → e = e) (by intros; rfl)), (1, .pf (∀ (i e : Nat), i < 1 ∧ e < 1 → 0 = 0) (by intros; rfl)), (1, .pf (∀ (i e : Nat), i < 1 ∧ e < 1 → x.snd.snd e = x.snd.snd e) (by intros; rfl)), (1, .le 1 1), (1, .pf (∀ (i : Nat), i < 1 → 0 ≤ 0) (by intros; exact Nat.le_refl _)), (1, .pf (∀ (i e : Nat), i < 1 ∧ e < 0 → uP (fun (x : Nat) => Int.ofNat 0) 0 e = uP (fun (x : Nat) => Int.ofNat 0) 0 e) (by intros; rfl)), (1, .pf (∀ (i e : Nat), i < 1 ∧ e < 0 → uL (fun (x : Nat) => Int.ofNat 0) 0 e = uL (fun (x : Nat) => Int.ofNat 0) 0 e) (by intros; rfl)), (1, .pf (∀ (i e : Nat), i < 1 ∧ e < 0 → uD (fun (x : Nat) => Int.ofNat 0) 0 e = uD (fun (x : Nat) => Int.ofNat 0) 0 e) (by intros; rfl))]
    (V.need (∀ (i : Nat), i < 1 → 0 ≤ gd 1 (fun (x : Nat) => 0) i ∧ 0 ≤ gd 1 (fun (e : Nat) => x.snd.snd e) i)
    (nN [(1, .pf (∀ (i e : Nat), i < 1 ∧ e < 0 → cO (fun (x : Nat) => Int.ofNat 0) 0 i e = cO (fun (x : Nat) => Int.ofNat 0) 0 i e) (by intros; rfl)), (1, .pf (∀ (i e : Nat), i < 1 ∧ e < 0 → cA (fun (x : Nat) => Int.ofNat 0) 0 i e = cA (fun (x : Nat) => Int.ofNat 0) 0 i e) (by intros; rfl)), (1, .pf (∀ (i e : Nat), i < 1 ∧ e < 0 → cB (fun (x : Nat) => Int.ofNat 0) 0 i e = cB (fun (x : Nat) => Int.ofNat 0) 0 i e) (by intros; rfl))]
    (V.need (preTk (Cf.mk (Int.ofNat 1) (Int.ofNat 4) (Int.ofNat 1) (Int.ofNat 4) (Int.ofNat 4) (Int.ofNat 1) (Int.ofNat 1) (IntKind.i64.wrap (age.tmod (Int.ofNat 10))) (Int.ofNat 1) 1 x.fst 0 x.snd.fst (fun (e : Nat) => 0) (fun (e : Nat) => x.snd.snd e) (fun (i e : Nat) => cO (fun (x : Nat) => Int.ofNat 0) 0 i e) (fun (i e : Nat) => cA (fun (x : Nat) => Int.ofNat 0) 0 i e) (fun (i e : Nat) => cB (fun (x : Nat) => Int.ofNat 0) 0 i e) (fun (e : Nat) => uP (fun (x : Nat) => Int.ofNat 0) 0 e) (fun (e : Nat) => uL (fun (x : Nat) => Int.ofNat 0) 0 e) fun (e : Nat) => uD (fun (x : Nat) => Int.ofNat 0) 0 e) (IntKind.i64.wrap (task.tmod (Int.ofNat 4))) (Int.ofNat 4))
    (nN [(1, .pf (∃ (x_5 : Int), x_5 = lT (Cf.mk (Int.ofNat 1) (Int.ofNat 4) (Int.ofNat 1) (Int.ofNat 4) (Int.ofNat 4) (Int.ofNat 1) (Int.ofNat 1) (IntKind.i64.wrap (age.tmod (Int.ofNat 10))) (Int.ofNat 1) 1 x.fst 0 x.snd.fst (fun (e : Nat) => 0) (fun (e : Nat) => x.snd.snd e) (fun (i e : Nat) => cO (fun (x : Nat) => Int.ofNat 0) 0 i e) (fun (i e : Nat) => cA (fun (x : Nat) => Int.ofNat 0) 0 i e) (fun (i e : Nat) => cB (fun (x : Nat) => Int.ofNat 0) 0 i e) (fun (e : Nat) => uP (fun (x : Nat) => Int.ofNat 0) 0 e) (fun (e : Nat) => uL (fun (x : Nat) => Int.ofNat 0) 0 e) fun (e : Nat) => uD (fun (x : Nat) => Int.ofNat 0) 0 e) + IntKind.i64.wrap (task.tmod (Int.ofNat 4)) * Int.ofNat 5 + Int.ofNat 4) ⟨_, rfl⟩)]
    (V.any Int (fun (r : Int) => r = lT (Cf.mk (Int.ofNat 1) (Int.ofNat 4) (Int.ofNat 1) (Int.ofNat 4) (Int.ofNat 4) (Int.ofNat 1) (Int.ofNat 1) (IntKind.i64.wrap (age.tmod (Int.ofNat 10))) (Int.ofNat 1) 1 x.fst 0 x.snd.fst (fun (e : Nat) => 0) (fun (e : Nat) => x.snd.snd e) (fun (i e : Nat) => cO (fun (x : Nat) => Int.ofNat 0) 0 i e) (fun (i e : Nat) => cA (fun (x : Nat) => Int.ofNat 0) 0 i e) (fun (i e : Nat) => cB (fun (x : Nat) => Int.ofNat 0) 0 i e) (fun (e : Nat) => uP (fun (x : Nat) => Int.ofNat 0) 0 e) (fun (e : Nat) => uL (fun (x : Nat) => Int.ofNat 0) 0 e) fun (e : Nat) => uD (fun (x : Nat) => Int.ofNat 0) 0 e) + IntKind.i64.wrap (task.tmod (Int.ofNat 4)) * Int.ofNat 5 + Int.ofNat 4) fun (x : Int) => nN [(1, .pf (x = x) rfl), (1, .pf (x_2.fst.m.ct = x_2.fst.m.ct) rfl), (1, .le 1 1), (1, .le2 52 52 52 52), (1, .pf (∀ (i e : Nat), i = 0 ∧ e < 52 → x_2.fst.m.g e = x_2.fst.m.g e) (by intros; rfl)), (1, .pf (∃ (x_5 : Int), x_5 = (Mm.mk (fun (e : Nat) => x_2.fst.m.g e) x_2.fst.m.lk x_2.fst.m.lc x_2.fst.m.lo x_2.fst.m.ln x_2.fst.m.ct).val 52 x) ⟨_, rfl⟩)]
    (V.any Int (fun (v : Int) => v = (Mm.mk (fun (e : Nat) => x_2.fst.m.g e) x_2.fst.m.lk x_2.fst.m.lc x_2.fst.m.lo x_2.fst.m.ln x_2.fst.m.ct).val 52 x) fun (x : Int) => V.need ((x == IntKind.u64.wrap (IntKind.i64.wrap (since.tmod (Int.ofNat 20)))) = true) V.ok)))))))
    (V.bad 420))))))))
    (V.bad 420))))
    (nN [(3, .lt2 0 1 0 1)]
    (V.br ((↑x_2.fst.l.n : Int) == Int.ofNat 0)
    (nN [(14, .lt2 0 1 0 1), (1, .eqI 1 1), (1, .eqI 4 4), (1, .eqI 1 1), (2, .eqI 4 4), (2, .eqI 1 1), (1, .pf (IntKind.i64.wrap (age.tmod (Int.ofNat 10)) = IntKind.i64.wrap (age.tmod (Int.ofNat 10))) rfl), (1, .eqI 1 1), (1, .eq 1 1), (1, .pf (x.fst = x.fst) rfl), (1, .eq 0 0), (1, .pf (x.snd.fst = x.snd.fst) rfl), (1, .pf (IntKind.i64.wrap (task.tmod (Int.ofNat 4)) = IntKind.i64.wrap (task.tmod (Int.ofNat 4))) rfl), (1, .eqI 1 1), (1, .le 1 1), (1, .pf (∀ (i : Nat), i < 1 → 1 ≤ 1) (by intros; exact Nat.le_refl _)), (1, .pf (∀ (i e : Nat), i < 1 ∧ e < 1 → e = e) (by intros; rfl)), (1, .pf (∀ (i e : Nat), i < 1 ∧ e < 1 → 0 = 0) (by intros; rfl)), (1, .pf (∀ (i e : Nat), i < 1 ∧ e < 1 → x.snd.snd e = x.snd.snd e) (by intros; rfl)), (1, .le 1 1), (1, .pf (∀ (i : Nat), i < 1 → 0 ≤ 0) (by intros; exact Nat.le_refl _)), (1, .pf (∀ (i e : Nat), i < 1 ∧ e < 0 → uP (fun (x : Nat) => Int.ofNat 0) 0 e = uP (fun (x : Nat) => Int.ofNat 0) 0 e) (by intros; rfl)), (1, .pf (∀ (i e : Nat), i < 1 ∧ e < 0 → uL (fun (x : Nat) => Int.ofNat 0) 0 e = uL (fun (x : Nat) => Int.ofNat 0) 0 e) (by intros; rfl)), (1, .pf (∀ (i e : Nat), i < 1 ∧ e < 0 → uD (fun (x : Nat) => Int.ofNat 0) 0 e = uD (fun (x : Nat) => Int.ofNat 0) 0 e) (by intros; rfl))]
    (V.need (∀ (i : Nat), i < 1 → 0 ≤ gd 1 (fun (x : Nat) => 0) i ∧ 0 ≤ gd 1 (fun (e : Nat) => x.snd.snd e) i)
    (nN [(1, .pf (∀ (i e : Nat), i < 1 ∧ e < 0 → cO (fun (x : Nat) => Int.ofNat 0) 0 i e = cO (fun (x : Nat) => Int.ofNat 0) 0 i e) (by intros; rfl)), (1, .pf (∀ (i e : Nat), i < 1 ∧ e < 0 → cA (fun (x : Nat) => Int.ofNat 0) 0 i e = cA (fun (x : Nat) => Int.ofNat 0) 0 i e) (by intros; rfl)), (1, .pf (∀ (i e : Nat), i < 1 ∧ e < 0 → cB (fun (x : Nat) => Int.ofNat 0) 0 i e = cB (fun (x : Nat) => Int.ofNat 0) 0 i e) (by intros; rfl))]
    (V.need (preTk (Cf.mk (Int.ofNat 1) (Int.ofNat 4) (Int.ofNat 1) (Int.ofNat 4) (Int.ofNat 4) (Int.ofNat 1) (Int.ofNat 1) (IntKind.i64.wrap (age.tmod (Int.ofNat 10))) (Int.ofNat 1) 1 x.fst 0 x.snd.fst (fun (e : Nat) => 0) (fun (e : Nat) => x.snd.snd e) (fun (i e : Nat) => cO (fun (x : Nat) => Int.ofNat 0) 0 i e) (fun (i e : Nat) => cA (fun (x : Nat) => Int.ofNat 0) 0 i e) (fun (i e : Nat) => cB (fun (x : Nat) => Int.ofNat 0) 0 i e) (fun (e : Nat) => uP (fun (x : Nat) => Int.ofNat 0) 0 e) (fun (e : Nat) => uL (fun (x : Nat) => Int.ofNat 0) 0 e) fun (e : Nat) => uD (fun (x : Nat) => Int.ofNat 0) 0 e) (IntKind.i64.wrap (task.tmod (Int.ofNat 4))) (Int.ofNat 1))
    (nN [(1, .pf (∃ (x_3 : Int), x_3 = lT (Cf.mk (Int.ofNat 1) (Int.ofNat 4) (Int.ofNat 1) (Int.ofNat 4) (Int.ofNat 4) (Int.ofNat 1) (Int.ofNat 1) (IntKind.i64.wrap (age.tmod (Int.ofNat 10))) (Int.ofNat 1) 1 x.fst 0 x.snd.fst (fun (e : Nat) => 0) (fun (e : Nat) => x.snd.snd e) (fun (i e : Nat) => cO (fun (x : Nat) => Int.ofNat 0) 0 i e) (fun (i e : Nat) => cA (fun (x : Nat) => Int.ofNat 0) 0 i e) (fun (i e : Nat) => cB (fun (x : Nat) => Int.ofNat 0) 0 i e) (fun (e : Nat) => uP (fun (x : Nat) => Int.ofNat 0) 0 e) (fun (e : Nat) => uL (fun (x : Nat) => Int.ofNat 0) 0 e) fun (e : Nat) => uD (fun (x : Nat) => Int.ofNat 0) 0 e) + IntKind.i64.wrap (task.tmod (Int.ofNat 4)) * Int.ofNat 5 + Int.ofNat 1) ⟨_, rfl⟩)]
    (V.any Int (fun (r : Int) => r = lT (Cf.mk (Int.ofNat 1) (Int.ofNat 4) (Int.ofNat 1) (Int.ofNat 4) (Int.ofNat 4) (Int.ofNat 1) (Int.ofNat 1) (IntKind.i64.wrap (age.tmod (Int.ofNat 10))) (Int.ofNat 1) 1 x.fst 0 x.snd.fst (fun (e : Nat) => 0) (fun (e : Nat) => x.snd.snd e) (fun (i e : Nat) => cO (fun (x : Nat) => Int.ofNat 0) 0 i e) (fun (i e : Nat) => cA (fun (x : Nat) => Int.ofNat 0) 0 i e) (fun (i e : Nat) => cB (fun (x : Nat) => Int.ofNat 0) 0 i e) (fun (e : Nat) => uP (fun (x : Nat) => Int.ofNat 0) 0 e) (fun (e : Nat) => uL (fun (x : Nat) => Int.ofNat 0) 0 e) fun (e : Nat) => uD (fun (x : Nat) => Int.ofNat 0) 0 e) + IntKind.i64.wrap (task.tmod (Int.ofNat 4)) * Int.ofNat 5 + Int.ofNat 1) fun (x_3 : Int) => nN [(1, .pf (x_3 = x_3) rfl), (1, .pf (x_2.fst.m.ct = x_2.fst.m.ct) rfl), (1, .le 1 1), (1, .le2 52 52 52 52), (1, .pf (∀ (i e : Nat), i = 0 ∧ e < 52 → x_2.fst.m.g e = x_2.fst.m.g e) (by intros; rfl)), (1, .pf (∃ (x : Int), x = (Mm.mk (fun (e : Nat) => x_2.fst.m.g e) x_2.fst.m.lk x_2.fst.m.lc x_2.fst.m.lo x_2.fst.m.ln x_2.fst.m.ct).val 52 x_3) ⟨_, rfl⟩)]
    (V.any Int (fun (v : Int) => v = (Mm.mk (fun (e : Nat) => x_2.fst.m.g e) x_2.fst.m.lk x_2.fst.m.lc x_2.fst.m.lo x_2.fst.m.ln x_2.fst.m.ct).val 52 x_3) fun (x_4 : Int) => V.br (x_4 == IntKind.u64.wrap (IntKind.i64.wrap (level.tmod (Int.ofNat 4))))
    (nN [(14, .lt2 0 1 0 1), (1, .eqI 1 1), (1, .eqI 4 4), (1, .eqI 1 1), (2, .eqI 4 4), (2, .eqI 1 1), (1, .pf (IntKind.i64.wrap (age.tmod (Int.ofNat 10)) = IntKind.i64.wrap (age.tmod (Int.ofNat 10))) rfl), (1, .eqI 1 1), (1, .eq 1 1), (1, .pf (x.fst = x.fst) rfl), (1, .eq 0 0), (1, .pf (x.snd.fst = x.snd.fst) rfl), (1, .pf (IntKind.i64.wrap (task.tmod (Int.ofNat 4)) = IntKind.i64.wrap (task.tmod (Int.ofNat 4))) rfl), (1, .eqI 4 4), (1, .le 1 1), (1, .pf (∀ (i : Nat), i < 1 → 1 ≤ 1) (by intros; exact Nat.le_refl _)), (1, .pf (∀ (i e : Nat), i < 1 ∧ e < 1 → e = e) (by intros; rfl)), (1, .pf (∀ (i e : Nat), i < 1 ∧ e < 1 → 0 = 0) (by intros; rfl)), (1, .pf (∀ (i e : Nat), i < 1 ∧ e < 1 → x.snd.snd e = x.snd.snd e) (by intros; rfl)), (1, .le 1 1), (1, .pf (∀ (i : Nat), i < 1 → 0 ≤ 0) (by intros; exact Nat.le_refl _)), (1, .pf (∀ (i e : Nat), i < 1 ∧ e < 0 → uP (fun (x : Nat) => Int.ofNat 0) 0 e = uP (fun (x : Nat) => Int.ofNat 0) 0 e) (by intros; rfl)), (1, .pf (∀ (i e : Nat), i < 1 ∧ e < 0 → uL (fun (x : Nat) => Int.ofNat 0) 0 e = uL (fun (x : Nat) => Int.ofNat 0) 0 e) (by intros; rfl)), (1, .pf (∀ (i e : Nat), i < 1 ∧ e < 0 → uD (fun (x : Nat) => Int.ofNat 0) 0 e = uD (fun (x : Nat) => Int.ofNat 0) 0 e) (by intros; rfl))]
    (V.need (∀ (i : Nat), i < 1 → 0 ≤ gd 1 (fun (x : Nat) => 0) i ∧ 0 ≤ gd 1 (fun (e : Nat) => x.snd.snd e) i)
    (nN [(1, .pf (∀ (i e : Nat), i < 1 ∧ e < 0 → cO (fun (x : Nat) => Int.ofNat 0) 0 i e = cO (fun (x : Nat) => Int.ofNat 0) 0 i e) (by intros; rfl)), (1, .pf (∀ (i e : Nat), i < 1 ∧ e < 0 → cA (fun (x : Nat) => Int.ofNat 0) 0 i e = cA (fun (x : Nat) => Int.ofNat 0) 0 i e) (by intros; rfl)), (1, .pf (∀ (i e : Nat), i < 1 ∧ e < 0 → cB (fun (x : Nat) => Int.ofNat 0) 0 i e = cB (fun (x : Nat) => Int.ofNat 0) 0 i e) (by intros; rfl))]
    (V.need (preTk (Cf.mk (Int.ofNat 1) (Int.ofNat 4) (Int.ofNat 1) (Int.ofNat 4) (Int.ofNat 4) (Int.ofNat 1) (Int.ofNat 1) (IntKind.i64.wrap (age.tmod (Int.ofNat 10))) (Int.ofNat 1) 1 x.fst 0 x.snd.fst (fun (e : Nat) => 0) (fun (e : Nat) => x.snd.snd e) (fun (i e : Nat) => cO (fun (x : Nat) => Int.ofNat 0) 0 i e) (fun (i e : Nat) => cA (fun (x : Nat) => Int.ofNat 0) 0 i e) (fun (i e : Nat) => cB (fun (x : Nat) => Int.ofNat 0) 0 i e) (fun (e : Nat) => uP (fun (x : Nat) => Int.ofNat 0) 0 e) (fun (e : Nat) => uL (fun (x : Nat) => Int.ofNat 0) 0 e) fun (e : Nat) => uD (fun (x : Nat) => Int.ofNat 0) 0 e) (IntKind.i64.wrap (task.tmod (Int.ofNat 4))) (Int.ofNat 4))
    (nN [(1, .pf (∃ (x_5 : Int), x_5 = lT (Cf.mk (Int.ofNat 1) (Int.ofNat 4) (Int.ofNat 1) (Int.ofNat 4) (Int.ofNat 4) (Int.ofNat 1) (Int.ofNat 1) (IntKind.i64.wrap (age.tmod (Int.ofNat 10))) (Int.ofNat 1) 1 x.fst 0 x.snd.fst (fun (e : Nat) => 0) (fun (e : Nat) => x.snd.snd e) (fun (i e : Nat) => cO (fun (x : Nat) => Int.ofNat 0) 0 i e) (fun (i e : Nat) => cA (fun (x : Nat) => Int.ofNat 0) 0 i e) (fun (i e : Nat) => cB (fun (x : Nat) => Int.ofNat 0) 0 i e) (fun (e : Nat) => uP (fun (x : Nat) => Int.ofNat 0) 0 e) (fun (e : Nat) => uL (fun (x : Nat) => Int.ofNat 0) 0 e) fun (e : Nat) => uD (fun (x : Nat) => Int.ofNat 0) 0 e) + IntKind.i64.wrap (task.tmod (Int.ofNat 4)) * Int.ofNat 5 + Int.ofNat 4) ⟨_, rfl⟩)]
    (V.any Int (fun (r : Int) => r = lT (Cf.mk (Int.ofNat 1) (Int.ofNat 4) (Int.ofNat 1) (Int.ofNat 4) (Int.ofNat 4) (Int.ofNat 1) (Int.ofNat 1) (IntKind.i64.wrap (age.tmod (Int.ofNat 10))) (Int.ofNat 1) 1 x.fst 0 x.snd.fst (fun (e : Nat) => 0) (fun (e : Nat) => x.snd.snd e) (fun (i e : Nat) => cO (fun (x : Nat) => Int.ofNat 0) 0 i e) (fun (i e : Nat) => cA (fun (x : Nat) => Int.ofNat 0) 0 i e) (fun (i e : Nat) => cB (fun (x : Nat) => Int.ofNat 0) 0 i e) (fun (e : Nat) => uP (fun (x : Nat) => Int.ofNat 0) 0 e) (fun (e : Nat) => uL (fun (x : Nat) => Int.ofNat 0) 0 e) fun (e : Nat) => uD (fun (x : Nat) => Int.ofNat 0) 0 e) + IntKind.i64.wrap (task.tmod (Int.ofNat 4)) * Int.ofNat 5 + Int.ofNat 4) fun (x : Int) => nN [(1, .pf (x = x) rfl), (1, .pf (x_2.fst.m.ct = x_2.fst.m.ct) rfl), (1, .le 1 1), (1, .le2 52 52 52 52), (1, .pf (∀ (i e : Nat), i = 0 ∧ e < 52 → x_2.fst.m.g e = x_2.fst.m.g e) (by intros; rfl)), (1, .pf (∃ (x_5 : Int), x_5 = (Mm.mk (fun (e : Nat) => x_2.fst.m.g e) x_2.fst.m.lk x_2.fst.m.lc x_2.fst.m.lo x_2.fst.m.ln x_2.fst.m.ct).val 52 x) ⟨_, rfl⟩)]
    (V.any Int (fun (v : Int) => v = (Mm.mk (fun (e : Nat) => x_2.fst.m.g e) x_2.fst.m.lk x_2.fst.m.lc x_2.fst.m.lo x_2.fst.m.ln x_2.fst.m.ct).val 52 x) fun (x : Int) => V.need ((x == IntKind.u64.wrap (IntKind.i64.wrap (since.tmod (Int.ofNat 20)))) = true) V.ok)))))))
    (V.bad 420))))))))
    (V.bad 420))))))))))))))))))) := by kernel_rfl


end Go.Proofs.Ytomaagmleafjeaa.Md

/- AgingWhen: the conditions hold; the walk. -/
set_option linter.unusedVariables false
set_option linter.unusedSimpArgs false
set_option maxRecDepth 100000
namespace Go.Proofs.Ytomaagmleafjeaa.Md
open Go Go.RowKit Sx Cn Dc Ck Vc
theorem conAg_ok : ConOK P conAg := .add cAlS_ok (.add cWt_ok (.add aw20_ok (.add cEnt_ok (.add cClW_ok (.add cTk_ok conNL_ok)))))
theorem wt_facts {t l s : Int} (ht : 0 ≤ t ∧ t ≤ 3) (hl : 0 ≤ l ∧ l ≤ 3) (hs : 0 ≤ s ∧ s ≤ 1000) : (∀ e, 0 ≤ (waitM t l s).g e ∧ (waitM t l s).g e ≤ 18446744073709551615) ∧ (waitM t l s).g (cl t 0) = 1 ∧ (waitM t l s).g (cl t 1) = l ∧ (waitM t l s).g (cl t 4) = s ∧ ∀ e, e < 32 → (waitM t l s).g e = 0 := by
  have e0 : ((cl t 0 : Nat) : Int) = 32 + t * 5 := by unfold cl; omega
  have e1 : ((cl t 1 : Nat) : Int) = 32 + t * 5 + 1 := by unfold cl; omega
  have e4 : ((cl t 4 : Nat) : Int) = 32 + t * 5 + 4 := by unfold cl; omega
  unfold waitM
  rw [wu64 (n := l) (by omega), wu64 (n := s) (by omega)]
  refine ⟨Mm.ok_acc (Mm.ok_acc (Mm.ok_acc (fun e => by show (0 : Int) ≤ 0 ∧ (0 : Int) ≤ _; omega) (by omega)) (by omega)) (by omega), ?_, ?_, ?_, fun e he => ?_⟩
  · rw [Mm.acc_ne (by omega), Mm.acc_ne (by omega), Mm.acc_eq (by omega) (by omega) (by omega)]
  · rw [Mm.acc_ne (by omega), Mm.acc_eq (by omega) (by omega) (by omega)]
  · rw [Mm.acc_eq (by omega) (by omega) (by omega)]
  · rw [Mm.acc_ne (by omega), Mm.acc_ne (by omega), Mm.acc_ne (by omega)]
    rfl
theorem ex_φ {age now t : Int} {m : Mm} (ht : 0 ≤ t ∧ t ≤ 3) (hn : 0 ≤ now ∧ now ≤ 1000) (hok : ∀ e, 0 ≤ m.g e ∧ m.g e ≤ 18446744073709551615) (h1 : m.g (cl t 1) ≤ 3) : ∃ x : Re × Nat, φSw age now t m x.1 ∧ x.1.l.n ≤ x.2 := by
  by_cases h : 0 < age ∧ age ≤ now - m.g (cl t 4) ∧ m.g (cl t 1) < 3
  · have p1 := (hok (cl t 1)).1
    have e1 : ((cl t 1 : Nat) : Int) = 33 + t * 5 := by unfold cl; omega
    have e4 : ((cl t 4 : Nat) : Int) = 36 + t * 5 := by unfold cl; omega
    have ed : ∀ k : Int, 0 ≤ k → ((dq (m.g (cl t 1) + 1) k : Nat) : Int) = 8 + (m.g (cl t 1) + 1) * 6 + k := fun k hk => by unfold dq; omega
    have d0 := ed 0 (by decide)
    have d1 := ed 1 (by decide)
    have d2 := ed 2 (by decide)
    refine ⟨(⟨0, 0, 0, ⟨fun e => if e = cl t 1 then m.g (cl t 1) + 1 else if e = cl t 4 then now else if e = dq (m.g (cl t 1) + 1) 0 then 0 else if e = dq (m.g (cl t 1) + 1) 1 then 1 else if e = dq (m.g (cl t 1) + 1) 2 then t else 0, 0, 0, 0, 0, 0⟩, ⟨1, ⟨fun _ => 0, fun _ => 0, fun _ => 0, fun _ => 0, fun _ => 0⟩⟩⟩, 1), ⟨fun h2 => absurd h h2, fun _ => ⟨rfl, ?_, ?_, ?_, ?_, ?_⟩, fun e => ?_⟩, Nat.le_refl _⟩
    all_goals dsimp only
    · rw [if_pos rfl]
    · rw [if_neg (by omega), if_pos rfl]
    · rw [if_neg (by omega), if_neg (by omega), if_pos rfl]
    · rw [if_neg (by omega), if_neg (by omega), if_neg (by omega), if_pos rfl]
    · rw [if_neg (by omega), if_neg (by omega), if_neg (by omega), if_neg (by omega), if_pos rfl]
    · repeat' split
      all_goals omega
  · exact ⟨(⟨0, 0, 0, m, ⟨0, ⟨fun _ => 0, fun _ => 0, fun _ => 0, fun _ => 0, fun _ => 0⟩⟩⟩, 0), φ_same rfl (fun _ => rfl) hok h, Nat.le_refl _⟩
theorem mod8 {x k : Int} (hx : 0 ≤ x ∧ x ≤ 255) (hk : 1 ≤ k ∧ k ≤ 20) : ∃ a, IntKind.i64.wrap (x.tmod k) = a ∧ 0 ≤ a ∧ a < k := by
  have h1 := Int.tmod_nonneg k hx.1
  have h2 := Int.tmod_lt_of_pos x (show 0 < k by omega)
  exact ⟨x.tmod k, w64 (by omega), h1, h2⟩
theorem entF {N D : Int} {I : Decidable (1 ≤ N ∧ N ≤ D)} (h : @decide (1 ≤ N ∧ N ≤ D) I = false) (hN : N = 1) (hD : 1 ≤ D) : False := of_decide_eq_false h ⟨by omega, by omega⟩
theorem entG {N : Int} (hN : N = 1) {p : V} (h : p.holds) : (V.br ((N.toNat : Int) == Int.ofNat 1) (V.need (Int.ofNat 0 ≤ Int.ofNat 0 ∧ Int.ofNat 0 < (N.toNat : Int)) (V.need (0 < 1 ∧ 0 < N.toNat) (V.need (0 < 1 ∧ 0 < N.toNat) p))) (V.bad 420)).holds := by
  subst hN
  exact V.brI (fun _ => V.needI (by decide) (V.needI (by decide) (V.needI (by decide) h))) (fun h => absurd h (by decide))
def c4p (c : Cf) : Prop := c.W = 1 ∧ c.L = 4 ∧ c.C = 1 ∧ c.T = 4 ∧ c.D = 4 ∧ c.H = 1
theorem okY4 {c : Cf} (h : c4p c) : okY c := by
  obtain ⟨h1, h2, h3, h4, h5, h6⟩ := h
  unfold okY
  omega
theorem okN4 {c : Cf} (h : c4p c) (hB : c.B = 1) (hA : 0 ≤ c.A ∧ c.A < 10) (hP : c.P = 1) : okN c := by
  obtain ⟨h1, h2, h3, h4, h5, h6⟩ := h
  unfold okN
  omega
theorem ncN4 {c : Cf} (h : c4p c) : ncN c = 52 := by
  obtain ⟨h1, h2, h3, h4, h5, h6⟩ := h
  unfold ncN ncI lT lQ
  rw [h1, h2, h3, h4, h5, h6]
  rfl
theorem ent_new {c : Cf} {g : Nat → Int} {l t : Int} (h : c4p c) (hl : 0 ≤ l ∧ l ≤ 3) (d0 : g (dq l 0) = 0) (d1 : g (dq l 1) = 1) (d2 : g (dq l 2) = t) (ht : 0 ≤ t ∧ t ≤ 3) : entN c g l = 1 ∧ entE c g l 0 = t := by
  obtain ⟨h1, h2, h3, h4, h5, h6⟩ := h
  have eQ : entQ c l = 8 + l * 6 := by unfold entQ lQ; rw [h1, h3, h5, h6]; omega
  have e0 : (8 + l * 6).toNat = dq l 0 := by unfold dq; rw [Int.add_zero]
  constructor
  · unfold entN sz
    rw [eQ, e0, show (8 + l * 6 + 1).toNat = dq l 1 from rfl, d0, d1]
    decide
  · unfold entE ringC
    rw [eQ, e0, d0, h5, if_neg (by decide), show IntKind.u64.wrap ((0 : Int) + ((0 : Nat) : Int)) = 0 from rfl, show IntKind.i64.wrap ((0 : Int).tmod (IntKind.u64.wrap 4)) = 0 from rfl, Int.add_zero, w64 (n := 8 + l * 6 + 2) (by omega), show (8 + l * 6 + 2).toNat = dq l 2 from rfl, d2, w64 (by omega)]
theorem ent_new1 {c : Cf} {g : Nat → Int} {l t : Int} (h : c4p c) (hl : 0 ≤ l ∧ l ≤ 3) (d0 : g (dq l 0) = 0) (d1 : g (dq l 1) = 1) (d2 : g (dq l 2) = t) (ht : 0 ≤ t ∧ t ≤ 3) : entN c (fun e => g e) l = 1 := (ent_new h hl d0 d1 d2 ht).1
theorem ent_new2 {c : Cf} {g : Nat → Int} {l t : Int} (h : c4p c) (hl : 0 ≤ l ∧ l ≤ 3) (d0 : g (dq l 0) = 0) (d1 : g (dq l 1) = 1) (d2 : g (dq l 2) = t) (ht : 0 ≤ t ∧ t ≤ 3) : entE c (fun e => g e) l 0 = t := (ent_new h hl d0 d1 d2 ht).2
set_option maxHeartbeats 8000000 in
theorem vhAg {age level since more task : Int} (ha : 0 ≤ age ∧ age ≤ 255) (hl : 0 ≤ level ∧ level ≤ 255) (hs : 0 ≤ since ∧ since ≤ 255) (hm : 0 ≤ more ∧ more ≤ 255) (ht : 0 ≤ task ∧ task ≤ 255) : VHolds (verAg age level since more task) := by
  obtain ⟨A, eA, bA⟩ := mod8 (k := Int.ofNat 10) ha (by decide)
  obtain ⟨L, eL, bL⟩ := mod8 (k := Int.ofNat 4) hl (by decide)
  obtain ⟨S, eS, bS⟩ := mod8 (k := Int.ofNat 20) hs (by decide)
  obtain ⟨Q, eQ, bQ⟩ := mod8 (k := Int.ofNat 20) hm (by decide)
  obtain ⟨T, eT, bT⟩ := mod8 (k := Int.ofNat 4) ht (by decide)
  simp only [Int.ofNat_eq_natCast, Int.cast_ofNat_Int] at bA bL bS bQ bT
  have w1 : IntKind.i64.wrap (S + Q) = S + Q := w64 (by omega)
  have w2 : IntKind.i64.wrap (S + Q - S) = Q := by rw [w64 (by omega)]; omega
  have w3 : IntKind.u64.wrap L = L := wu64 (by omega)
  have w4 : IntKind.u64.wrap S = S := wu64 (by omega)
  have w5 : IntKind.i64.wrap (L + Int.ofNat 1) = L + 1 := w64 (by show _ ≤ L + (1 : Int) ∧ L + (1 : Int) ≤ _; omega)
  have w6 : IntKind.u64.wrap (L + 1) = L + 1 := wu64 (by omega)
  have w7 : IntKind.u64.wrap (S + Q) = S + Q := wu64 (by omega)
  constructor
  rw [verAg_eq]
  simp only [eA, eL, eS, eQ, eT, w1, w2, w3, w4, w5, w6, w7]
  (repeat' first | with_reducible exact V.okI | with_reducible refine V.anyCfg ?_ | with_reducible refine V.anyMm ?_ | with_reducible refine V.anyInt ?_ | with_reducible refine V.anyNat ?_ | with_reducible refine V.anyCl' ?_ | with_reducible refine nN_h rfl ?_ | with_reducible refine V.needI ?_ ?_ | with_reducible intro _)
  all_goals first
    | (first | rfl | exact True.intro | exact ⟨u8_0, by decide⟩ | exact ⟨(1, 0, fun _ => 0), Nat.le_refl _⟩ | exact ⟨Nat.le_refl _, by assumption⟩ | exact Nat.zero_le _ | exact ⟨Nat.zero_le _, Nat.zero_le _⟩ | exact ⟨(_, _), is_cl _, Nat.le_refl _⟩ | exact err9 (by unfold okN; simp only [Int.ofNat_eq_natCast]; omega) rfl rfl rfl | decide)
    | exact ⟨err9 (by unfold okN c4; dsimp only; omega) rfl rfl rfl, ⟨by omega, by omega⟩, by omega, by omega⟩
    | exact ⟨⟨_, _, _, _⟩, is_cl _, Nat.le_refl _, rfl, rfl⟩
    | omega
    | skip
  refine V.anyI fun w hw => ?_
  obtain ⟨d, rc, m, now⟩ := w
  obtain ⟨hcl, hrc, hm, hn⟩ := hw
  dsimp only at hcl hrc hm hn ⊢
  subst hn
  obtain ⟨hok, h0, h1, h4, hz⟩ := wt_facts (t := T) (l := L) (s := S) (by omega) (by omega) (by omega)
  rw [← hm] at hok h0 h1 h4 hz
  clear hm
  simp only [Mm.eta]
  (repeat' first | with_reducible exact V.okI | with_reducible refine V.anyCfg ?_ | with_reducible refine V.anyMm ?_ | with_reducible refine V.anyInt ?_ | with_reducible refine V.anyNat ?_ | with_reducible refine V.anyCl' ?_ | with_reducible refine nN_h rfl ?_ | with_reducible refine V.needI ?_ ?_ | with_reducible intro _)
  all_goals first
    | exact ⟨⟨by omega, by omega, by omega⟩, rfl, hok, h0, by omega, by omega, hz⟩
    | exact ex_φ (by omega) (by omega) hok (by omega)
    | trivial
    | skip
  refine V.anyI fun r hr => ?_
  obtain ⟨r, nc⟩ := r
  obtain ⟨⟨f1, f2, f3⟩, hnc⟩ := hr
  dsimp only at f1 f2 f3 hnc ⊢
  rw [h1, h4] at f1 f2
  refine V.brI (fun c1 => ?_) fun c1 => ?_
  · have c1 : 0 < A := of_decide_eq_true c1
    refine V.brI (fun c2 => ?_) fun c2 => ?_
    · have c2 : Q ≥ A := of_decide_eq_true c2
      refine V.brI (fun c3 => ?_) fun c3 => ?_
      · have c3 : ¬ L < (3 : Int) := of_decide_eq_false (by simpa using c3)
        have no : ¬ (0 < A ∧ A ≤ S + Q - S ∧ L < 3) := by omega
        obtain ⟨q1, q2, q3⟩ := f1 no
        (repeat' first | with_reducible refine nN_h rfl ?_ | with_reducible refine V.needI ?_ ?_)
        all_goals try first
          | exact fun i _ => ⟨Nat.zero_le _, Nat.zero_le _⟩
          | exact ⟨okY4 ⟨rfl, rfl, rfl, rfl, rfl, rfl⟩, ⟨by omega, by show T < (4 : Int); omega⟩, by decide, by decide⟩
          | exact ⟨Nat.le_refl _, by assumption⟩
          | exact ⟨Nat.le_refl _, Nat.zero_le _⟩
          | exact ⟨52, Nat.le_refl _⟩
          | exact ⟨err9 (okN4 ⟨rfl, rfl, rfl, rfl, rfl, rfl⟩ rfl bA rfl) rfl rfl rfl, (ncN4 ⟨rfl, rfl, rfl, rfl, rfl, rfl⟩).symm, ⟨by omega, by show L + 1 < (4 : Int); omega⟩, f3⟩
          | exact ⟨_, Nat.le_refl _⟩
          | omega
          | trivial
        refine V.brI (fun _ => ?_) (fun h => absurd h (by rw [q1]; decide))
        (repeat' first | with_reducible refine nN_h rfl ?_ | with_reducible refine V.needI ?_ ?_)
        all_goals try first
          | exact fun i _ => ⟨Nat.zero_le _, Nat.zero_le _⟩
          | exact ⟨okY4 ⟨rfl, rfl, rfl, rfl, rfl, rfl⟩, ⟨by omega, by show T < (4 : Int); omega⟩, by decide, by decide⟩
          | exact ⟨Nat.le_refl _, by assumption⟩
          | exact ⟨Nat.le_refl _, Nat.zero_le _⟩
          | exact ⟨52, Nat.le_refl _⟩
          | exact ⟨err9 (okN4 ⟨rfl, rfl, rfl, rfl, rfl, rfl⟩ rfl bA rfl) rfl rfl rfl, (ncN4 ⟨rfl, rfl, rfl, rfl, rfl, rfl⟩).symm, ⟨by omega, by show L + 1 < (4 : Int); omega⟩, f3⟩
          | exact ⟨_, Nat.le_refl _⟩
          | omega
          | trivial
        refine V.anyI fun x3 hx3 => ?_
        (repeat' first | with_reducible refine nN_h rfl ?_ | with_reducible refine V.needI ?_ ?_)
        all_goals try first
          | exact fun i _ => ⟨Nat.zero_le _, Nat.zero_le _⟩
          | exact ⟨okY4 ⟨rfl, rfl, rfl, rfl, rfl, rfl⟩, ⟨by omega, by show T < (4 : Int); omega⟩, by decide, by decide⟩
          | exact ⟨Nat.le_refl _, by assumption⟩
          | exact ⟨Nat.le_refl _, Nat.zero_le _⟩
          | exact ⟨52, Nat.le_refl _⟩
          | exact ⟨err9 (okN4 ⟨rfl, rfl, rfl, rfl, rfl, rfl⟩ rfl bA rfl) rfl rfl rfl, (ncN4 ⟨rfl, rfl, rfl, rfl, rfl, rfl⟩).symm, ⟨by omega, by show L + 1 < (4 : Int); omega⟩, f3⟩
          | exact ⟨_, Nat.le_refl _⟩
          | omega
          | trivial
        refine V.anyI fun v4 hv4 => ?_
        have hv4 : v4 = L := by rw [hv4, val_cl (t := T) (k := 1) (by omega) (by decide) hx3]; exact q2
        refine V.brI (fun _ => ?_) (fun h => (ceq hv4 h).elim)
        (repeat' first | with_reducible refine nN_h rfl ?_ | with_reducible refine V.needI ?_ ?_)
        all_goals try first
          | exact fun i _ => ⟨Nat.zero_le _, Nat.zero_le _⟩
          | exact ⟨okY4 ⟨rfl, rfl, rfl, rfl, rfl, rfl⟩, ⟨by omega, by show T < (4 : Int); omega⟩, by decide, by decide⟩
          | exact ⟨Nat.le_refl _, by assumption⟩
          | exact ⟨Nat.le_refl _, Nat.zero_le _⟩
          | exact ⟨52, Nat.le_refl _⟩
          | exact ⟨err9 (okN4 ⟨rfl, rfl, rfl, rfl, rfl, rfl⟩ rfl bA rfl) rfl rfl rfl, (ncN4 ⟨rfl, rfl, rfl, rfl, rfl, rfl⟩).symm, ⟨by omega, by show L + 1 < (4 : Int); omega⟩, f3⟩
          | exact ⟨_, Nat.le_refl _⟩
          | omega
          | trivial
        refine V.anyI fun x5 hx5 => ?_
        (repeat' first | with_reducible refine nN_h rfl ?_ | with_reducible refine V.needI ?_ ?_)
        all_goals try first
          | exact fun i _ => ⟨Nat.zero_le _, Nat.zero_le _⟩
          | exact ⟨okY4 ⟨rfl, rfl, rfl, rfl, rfl, rfl⟩, ⟨by omega, by show T < (4 : Int); omega⟩, by decide, by decide⟩
          | exact ⟨Nat.le_refl _, by assumption⟩
          | exact ⟨Nat.le_refl _, Nat.zero_le _⟩
          | exact ⟨52, Nat.le_refl _⟩
          | exact ⟨err9 (okN4 ⟨rfl, rfl, rfl, rfl, rfl, rfl⟩ rfl bA rfl) rfl rfl rfl, (ncN4 ⟨rfl, rfl, rfl, rfl, rfl, rfl⟩).symm, ⟨by omega, by show L + 1 < (4 : Int); omega⟩, f3⟩
          | exact ⟨_, Nat.le_refl _⟩
          | omega
          | trivial
        refine V.anyI fun v6 hv6 => ?_
        have hv6 : v6 = S := by rw [hv6, val_cl (t := T) (k := 4) (by omega) (by decide) hx5]; exact q3
        exact V.needI (beq_iff_eq.2 hv6) V.okI
      · have c3 : L < (3 : Int) := of_decide_eq_true (by simpa using c3)
        have old : 0 < A ∧ A ≤ S + Q - S ∧ L < 3 := by omega
        obtain ⟨q1, q2, q3, q4, q5, q6⟩ := f2 old
        (repeat' first | with_reducible refine nN_h rfl ?_ | with_reducible refine V.needI ?_ ?_)
        all_goals try first
          | exact fun i _ => ⟨Nat.zero_le _, Nat.zero_le _⟩
          | exact ⟨okY4 ⟨rfl, rfl, rfl, rfl, rfl, rfl⟩, ⟨by omega, by show T < (4 : Int); omega⟩, by decide, by decide⟩
          | exact ⟨Nat.le_refl _, by assumption⟩
          | exact ⟨Nat.le_refl _, Nat.zero_le _⟩
          | exact ⟨52, Nat.le_refl _⟩
          | exact ⟨err9 (okN4 ⟨rfl, rfl, rfl, rfl, rfl, rfl⟩ rfl bA rfl) rfl rfl rfl, (ncN4 ⟨rfl, rfl, rfl, rfl, rfl, rfl⟩).symm, ⟨by omega, by show L + 1 < (4 : Int); omega⟩, f3⟩
          | exact ⟨_, Nat.le_refl _⟩
          | omega
          | trivial
        refine V.anyI fun cp hcp => ?_
        (repeat' first | with_reducible refine nN_h rfl ?_ | with_reducible refine V.needI ?_ ?_)
        all_goals try first
          | exact fun i _ => ⟨Nat.zero_le _, Nat.zero_le _⟩
          | exact ⟨okY4 ⟨rfl, rfl, rfl, rfl, rfl, rfl⟩, ⟨by omega, by show T < (4 : Int); omega⟩, by decide, by decide⟩
          | exact ⟨Nat.le_refl _, by assumption⟩
          | exact ⟨Nat.le_refl _, Nat.zero_le _⟩
          | exact ⟨52, Nat.le_refl _⟩
          | exact ⟨err9 (okN4 ⟨rfl, rfl, rfl, rfl, rfl, rfl⟩ rfl bA rfl) rfl rfl rfl, (ncN4 ⟨rfl, rfl, rfl, rfl, rfl, rfl⟩).symm, ⟨by omega, by show L + 1 < (4 : Int); omega⟩, f3⟩
          | exact ⟨_, Nat.le_refl _⟩
          | omega
          | trivial
        refine V.brI (fun _ => ?_) (fun h => by
          refine (entF h ?_ ?_).elim
          · exact ent_new1 ⟨rfl, rfl, rfl, rfl, rfl, rfl⟩ (by omega) q4 q5 q6 (by omega)
          · decide)
        (repeat' first | with_reducible refine nN_h rfl ?_ | with_reducible refine V.needI ?_ ?_)
        all_goals try first
          | exact fun i _ => ⟨Nat.zero_le _, Nat.zero_le _⟩
          | exact ⟨okY4 ⟨rfl, rfl, rfl, rfl, rfl, rfl⟩, ⟨by omega, by show T < (4 : Int); omega⟩, by decide, by decide⟩
          | exact ⟨Nat.le_refl _, by assumption⟩
          | exact ⟨Nat.le_refl _, Nat.zero_le _⟩
          | exact ⟨52, Nat.le_refl _⟩
          | exact ⟨err9 (okN4 ⟨rfl, rfl, rfl, rfl, rfl, rfl⟩ rfl bA rfl) rfl rfl rfl, (ncN4 ⟨rfl, rfl, rfl, rfl, rfl, rfl⟩).symm, ⟨by omega, by show L + 1 < (4 : Int); omega⟩, f3⟩
          | exact ⟨_, Nat.le_refl _⟩
          | omega
          | trivial
        refine V.anyI fun cq hcq => ?_
        (repeat' first | with_reducible refine nN_h rfl ?_ | with_reducible refine V.needI ?_ ?_)
        all_goals try first
          | exact fun i _ => ⟨Nat.zero_le _, Nat.zero_le _⟩
          | exact ⟨okY4 ⟨rfl, rfl, rfl, rfl, rfl, rfl⟩, ⟨by omega, by show T < (4 : Int); omega⟩, by decide, by decide⟩
          | exact ⟨Nat.le_refl _, by assumption⟩
          | exact ⟨Nat.le_refl _, Nat.zero_le _⟩
          | exact ⟨52, Nat.le_refl _⟩
          | exact ⟨err9 (okN4 ⟨rfl, rfl, rfl, rfl, rfl, rfl⟩ rfl bA rfl) rfl rfl rfl, (ncN4 ⟨rfl, rfl, rfl, rfl, rfl, rfl⟩).symm, ⟨by omega, by show L + 1 < (4 : Int); omega⟩, f3⟩
          | exact ⟨_, Nat.le_refl _⟩
          | omega
          | trivial
        refine V.brI (fun _ => ?_) (fun h => absurd h (by rw [q1]; decide))
        (repeat' first | with_reducible refine nN_h rfl ?_ | with_reducible refine V.needI ?_ ?_)
        all_goals try first
          | exact fun i _ => ⟨Nat.zero_le _, Nat.zero_le _⟩
          | exact ⟨okY4 ⟨rfl, rfl, rfl, rfl, rfl, rfl⟩, ⟨by omega, by show T < (4 : Int); omega⟩, by decide, by decide⟩
          | exact ⟨Nat.le_refl _, by assumption⟩
          | exact ⟨Nat.le_refl _, Nat.zero_le _⟩
          | exact ⟨52, Nat.le_refl _⟩
          | exact ⟨err9 (okN4 ⟨rfl, rfl, rfl, rfl, rfl, rfl⟩ rfl bA rfl) rfl rfl rfl, (ncN4 ⟨rfl, rfl, rfl, rfl, rfl, rfl⟩).symm, ⟨by omega, by show L + 1 < (4 : Int); omega⟩, f3⟩
          | exact ⟨_, Nat.le_refl _⟩
          | omega
          | trivial
        refine V.anyI fun x3 hx3 => ?_
        (repeat' first | with_reducible refine nN_h rfl ?_ | with_reducible refine V.needI ?_ ?_)
        all_goals try first
          | exact fun i _ => ⟨Nat.zero_le _, Nat.zero_le _⟩
          | exact ⟨okY4 ⟨rfl, rfl, rfl, rfl, rfl, rfl⟩, ⟨by omega, by show T < (4 : Int); omega⟩, by decide, by decide⟩
          | exact ⟨Nat.le_refl _, by assumption⟩
          | exact ⟨Nat.le_refl _, Nat.zero_le _⟩
          | exact ⟨52, Nat.le_refl _⟩
          | exact ⟨err9 (okN4 ⟨rfl, rfl, rfl, rfl, rfl, rfl⟩ rfl bA rfl) rfl rfl rfl, (ncN4 ⟨rfl, rfl, rfl, rfl, rfl, rfl⟩).symm, ⟨by omega, by show L + 1 < (4 : Int); omega⟩, f3⟩
          | exact ⟨_, Nat.le_refl _⟩
          | omega
          | trivial
        refine V.anyI fun v4 hv4 => ?_
        have hv4 : v4 = L + 1 := by rw [hv4, val_cl (t := T) (k := 1) (by omega) (by decide) hx3]; exact q2
        refine V.brI (fun _ => ?_) (fun h => (ceq hv4 h).elim)
        (repeat' first | with_reducible refine nN_h rfl ?_ | with_reducible refine V.needI ?_ ?_)
        all_goals try first
          | exact fun i _ => ⟨Nat.zero_le _, Nat.zero_le _⟩
          | exact ⟨okY4 ⟨rfl, rfl, rfl, rfl, rfl, rfl⟩, ⟨by omega, by show T < (4 : Int); omega⟩, by decide, by decide⟩
          | exact ⟨Nat.le_refl _, by assumption⟩
          | exact ⟨Nat.le_refl _, Nat.zero_le _⟩
          | exact ⟨52, Nat.le_refl _⟩
          | exact ⟨err9 (okN4 ⟨rfl, rfl, rfl, rfl, rfl, rfl⟩ rfl bA rfl) rfl rfl rfl, (ncN4 ⟨rfl, rfl, rfl, rfl, rfl, rfl⟩).symm, ⟨by omega, by show L + 1 < (4 : Int); omega⟩, f3⟩
          | exact ⟨_, Nat.le_refl _⟩
          | omega
          | trivial
        refine V.anyI fun x5 hx5 => ?_
        (repeat' first | with_reducible refine nN_h rfl ?_ | with_reducible refine V.needI ?_ ?_)
        all_goals try first
          | exact fun i _ => ⟨Nat.zero_le _, Nat.zero_le _⟩
          | exact ⟨okY4 ⟨rfl, rfl, rfl, rfl, rfl, rfl⟩, ⟨by omega, by show T < (4 : Int); omega⟩, by decide, by decide⟩
          | exact ⟨Nat.le_refl _, by assumption⟩
          | exact ⟨Nat.le_refl _, Nat.zero_le _⟩
          | exact ⟨52, Nat.le_refl _⟩
          | exact ⟨err9 (okN4 ⟨rfl, rfl, rfl, rfl, rfl, rfl⟩ rfl bA rfl) rfl rfl rfl, (ncN4 ⟨rfl, rfl, rfl, rfl, rfl, rfl⟩).symm, ⟨by omega, by show L + 1 < (4 : Int); omega⟩, f3⟩
          | exact ⟨_, Nat.le_refl _⟩
          | omega
          | trivial
        refine V.anyI fun v6 hv6 => ?_
        have hv6 : v6 = S + Q := by rw [hv6, val_cl (t := T) (k := 4) (by omega) (by decide) hx5]; exact q3
        refine V.brI (fun _ => ?_) (fun h => (ceq hv6 h).elim)
        refine entG ?_ (V.needI (beq_iff_eq.2 ?_) V.okI)
        · exact ent_new1 ⟨rfl, rfl, rfl, rfl, rfl, rfl⟩ (by omega) q4 q5 q6 (by omega)
        · exact ent_new2 ⟨rfl, rfl, rfl, rfl, rfl, rfl⟩ (by omega) q4 q5 q6 (by omega)
    · have c2 : ¬ Q ≥ A := of_decide_eq_false c2
      have no : ¬ (0 < A ∧ A ≤ S + Q - S ∧ L < 3) := by omega
      obtain ⟨q1, q2, q3⟩ := f1 no
      (repeat' first | with_reducible refine nN_h rfl ?_ | with_reducible refine V.needI ?_ ?_)
      all_goals try first
        | exact fun i _ => ⟨Nat.zero_le _, Nat.zero_le _⟩
        | exact ⟨okY4 ⟨rfl, rfl, rfl, rfl, rfl, rfl⟩, ⟨by omega, by show T < (4 : Int); omega⟩, by decide, by decide⟩
        | exact ⟨Nat.le_refl _, by assumption⟩
        | exact ⟨Nat.le_refl _, Nat.zero_le _⟩
        | exact ⟨52, Nat.le_refl _⟩
        | exact ⟨err9 (okN4 ⟨rfl, rfl, rfl, rfl, rfl, rfl⟩ rfl bA rfl) rfl rfl rfl, (ncN4 ⟨rfl, rfl, rfl, rfl, rfl, rfl⟩).symm, ⟨by omega, by show L + 1 < (4 : Int); omega⟩, f3⟩
        | exact ⟨_, Nat.le_refl _⟩
        | omega
        | trivial
      refine V.brI (fun _ => ?_) (fun h => absurd h (by rw [q1]; decide))
      (repeat' first | with_reducible refine nN_h rfl ?_ | with_reducible refine V.needI ?_ ?_)
      all_goals try first
        | exact fun i _ => ⟨Nat.zero_le _, Nat.zero_le _⟩
        | exact ⟨okY4 ⟨rfl, rfl, rfl, rfl, rfl, rfl⟩, ⟨by omega, by show T < (4 : Int); omega⟩, by decide, by decide⟩
        | exact ⟨Nat.le_refl _, by assumption⟩
        | exact ⟨Nat.le_refl _, Nat.zero_le _⟩
        | exact ⟨52, Nat.le_refl _⟩
        | exact ⟨err9 (okN4 ⟨rfl, rfl, rfl, rfl, rfl, rfl⟩ rfl bA rfl) rfl rfl rfl, (ncN4 ⟨rfl, rfl, rfl, rfl, rfl, rfl⟩).symm, ⟨by omega, by show L + 1 < (4 : Int); omega⟩, f3⟩
        | exact ⟨_, Nat.le_refl _⟩
        | omega
        | trivial
      refine V.anyI fun x3 hx3 => ?_
      (repeat' first | with_reducible refine nN_h rfl ?_ | with_reducible refine V.needI ?_ ?_)
      all_goals try first
        | exact fun i _ => ⟨Nat.zero_le _, Nat.zero_le _⟩
        | exact ⟨okY4 ⟨rfl, rfl, rfl, rfl, rfl, rfl⟩, ⟨by omega, by show T < (4 : Int); omega⟩, by decide, by decide⟩
        | exact ⟨Nat.le_refl _, by assumption⟩
        | exact ⟨Nat.le_refl _, Nat.zero_le _⟩
        | exact ⟨52, Nat.le_refl _⟩
        | exact ⟨err9 (okN4 ⟨rfl, rfl, rfl, rfl, rfl, rfl⟩ rfl bA rfl) rfl rfl rfl, (ncN4 ⟨rfl, rfl, rfl, rfl, rfl, rfl⟩).symm, ⟨by omega, by show L + 1 < (4 : Int); omega⟩, f3⟩
        | exact ⟨_, Nat.le_refl _⟩
        | omega
        | trivial
      refine V.anyI fun v4 hv4 => ?_
      have hv4 : v4 = L := by rw [hv4, val_cl (t := T) (k := 1) (by omega) (by decide) hx3]; exact q2
      refine V.brI (fun _ => ?_) (fun h => (ceq hv4 h).elim)
      (repeat' first | with_reducible refine nN_h rfl ?_ | with_reducible refine V.needI ?_ ?_)
      all_goals try first
        | exact fun i _ => ⟨Nat.zero_le _, Nat.zero_le _⟩
        | exact ⟨okY4 ⟨rfl, rfl, rfl, rfl, rfl, rfl⟩, ⟨by omega, by show T < (4 : Int); omega⟩, by decide, by decide⟩
        | exact ⟨Nat.le_refl _, by assumption⟩
        | exact ⟨Nat.le_refl _, Nat.zero_le _⟩
        | exact ⟨52, Nat.le_refl _⟩
        | exact ⟨err9 (okN4 ⟨rfl, rfl, rfl, rfl, rfl, rfl⟩ rfl bA rfl) rfl rfl rfl, (ncN4 ⟨rfl, rfl, rfl, rfl, rfl, rfl⟩).symm, ⟨by omega, by show L + 1 < (4 : Int); omega⟩, f3⟩
        | exact ⟨_, Nat.le_refl _⟩
        | omega
        | trivial
      refine V.anyI fun x5 hx5 => ?_
      (repeat' first | with_reducible refine nN_h rfl ?_ | with_reducible refine V.needI ?_ ?_)
      all_goals try first
        | exact fun i _ => ⟨Nat.zero_le _, Nat.zero_le _⟩
        | exact ⟨okY4 ⟨rfl, rfl, rfl, rfl, rfl, rfl⟩, ⟨by omega, by show T < (4 : Int); omega⟩, by decide, by decide⟩
        | exact ⟨Nat.le_refl _, by assumption⟩
        | exact ⟨Nat.le_refl _, Nat.zero_le _⟩
        | exact ⟨52, Nat.le_refl _⟩
        | exact ⟨err9 (okN4 ⟨rfl, rfl, rfl, rfl, rfl, rfl⟩ rfl bA rfl) rfl rfl rfl, (ncN4 ⟨rfl, rfl, rfl, rfl, rfl, rfl⟩).symm, ⟨by omega, by show L + 1 < (4 : Int); omega⟩, f3⟩
        | exact ⟨_, Nat.le_refl _⟩
        | omega
        | trivial
      refine V.anyI fun v6 hv6 => ?_
      have hv6 : v6 = S := by rw [hv6, val_cl (t := T) (k := 4) (by omega) (by decide) hx5]; exact q3
      exact V.needI (beq_iff_eq.2 hv6) V.okI
  · have c1 : ¬ 0 < A := of_decide_eq_false c1
    have no : ¬ (0 < A ∧ A ≤ S + Q - S ∧ L < 3) := by omega
    obtain ⟨q1, q2, q3⟩ := f1 no
    (repeat' first | with_reducible refine nN_h rfl ?_ | with_reducible refine V.needI ?_ ?_)
    all_goals try first
      | exact fun i _ => ⟨Nat.zero_le _, Nat.zero_le _⟩
      | exact ⟨okY4 ⟨rfl, rfl, rfl, rfl, rfl, rfl⟩, ⟨by omega, by show T < (4 : Int); omega⟩, by decide, by decide⟩
      | exact ⟨Nat.le_refl _, by assumption⟩
      | exact ⟨Nat.le_refl _, Nat.zero_le _⟩
      | exact ⟨52, Nat.le_refl _⟩
      | exact ⟨err9 (okN4 ⟨rfl, rfl, rfl, rfl, rfl, rfl⟩ rfl bA rfl) rfl rfl rfl, (ncN4 ⟨rfl, rfl, rfl, rfl, rfl, rfl⟩).symm, ⟨by omega, by show L + 1 < (4 : Int); omega⟩, f3⟩
      | exact ⟨_, Nat.le_refl _⟩
      | omega
      | trivial
    refine V.brI (fun _ => ?_) (fun h => absurd h (by rw [q1]; decide))
    (repeat' first | with_reducible refine nN_h rfl ?_ | with_reducible refine V.needI ?_ ?_)
    all_goals try first
      | exact fun i _ => ⟨Nat.zero_le _, Nat.zero_le _⟩
      | exact ⟨okY4 ⟨rfl, rfl, rfl, rfl, rfl, rfl⟩, ⟨by omega, by show T < (4 : Int); omega⟩, by decide, by decide⟩
      | exact ⟨Nat.le_refl _, by assumption⟩
      | exact ⟨Nat.le_refl _, Nat.zero_le _⟩
      | exact ⟨52, Nat.le_refl _⟩
      | exact ⟨err9 (okN4 ⟨rfl, rfl, rfl, rfl, rfl, rfl⟩ rfl bA rfl) rfl rfl rfl, (ncN4 ⟨rfl, rfl, rfl, rfl, rfl, rfl⟩).symm, ⟨by omega, by show L + 1 < (4 : Int); omega⟩, f3⟩
      | exact ⟨_, Nat.le_refl _⟩
      | omega
      | trivial
    refine V.anyI fun x3 hx3 => ?_
    (repeat' first | with_reducible refine nN_h rfl ?_ | with_reducible refine V.needI ?_ ?_)
    all_goals try first
      | exact fun i _ => ⟨Nat.zero_le _, Nat.zero_le _⟩
      | exact ⟨okY4 ⟨rfl, rfl, rfl, rfl, rfl, rfl⟩, ⟨by omega, by show T < (4 : Int); omega⟩, by decide, by decide⟩
      | exact ⟨Nat.le_refl _, by assumption⟩
      | exact ⟨Nat.le_refl _, Nat.zero_le _⟩
      | exact ⟨52, Nat.le_refl _⟩
      | exact ⟨err9 (okN4 ⟨rfl, rfl, rfl, rfl, rfl, rfl⟩ rfl bA rfl) rfl rfl rfl, (ncN4 ⟨rfl, rfl, rfl, rfl, rfl, rfl⟩).symm, ⟨by omega, by show L + 1 < (4 : Int); omega⟩, f3⟩
      | exact ⟨_, Nat.le_refl _⟩
      | omega
      | trivial
    refine V.anyI fun v4 hv4 => ?_
    have hv4 : v4 = L := by rw [hv4, val_cl (t := T) (k := 1) (by omega) (by decide) hx3]; exact q2
    refine V.brI (fun _ => ?_) (fun h => (ceq hv4 h).elim)
    (repeat' first | with_reducible refine nN_h rfl ?_ | with_reducible refine V.needI ?_ ?_)
    all_goals try first
      | exact fun i _ => ⟨Nat.zero_le _, Nat.zero_le _⟩
      | exact ⟨okY4 ⟨rfl, rfl, rfl, rfl, rfl, rfl⟩, ⟨by omega, by show T < (4 : Int); omega⟩, by decide, by decide⟩
      | exact ⟨Nat.le_refl _, by assumption⟩
      | exact ⟨Nat.le_refl _, Nat.zero_le _⟩
      | exact ⟨52, Nat.le_refl _⟩
      | exact ⟨err9 (okN4 ⟨rfl, rfl, rfl, rfl, rfl, rfl⟩ rfl bA rfl) rfl rfl rfl, (ncN4 ⟨rfl, rfl, rfl, rfl, rfl, rfl⟩).symm, ⟨by omega, by show L + 1 < (4 : Int); omega⟩, f3⟩
      | exact ⟨_, Nat.le_refl _⟩
      | omega
      | trivial
    refine V.anyI fun x5 hx5 => ?_
    (repeat' first | with_reducible refine nN_h rfl ?_ | with_reducible refine V.needI ?_ ?_)
    all_goals try first
      | exact fun i _ => ⟨Nat.zero_le _, Nat.zero_le _⟩
      | exact ⟨okY4 ⟨rfl, rfl, rfl, rfl, rfl, rfl⟩, ⟨by omega, by show T < (4 : Int); omega⟩, by decide, by decide⟩
      | exact ⟨Nat.le_refl _, by assumption⟩
      | exact ⟨Nat.le_refl _, Nat.zero_le _⟩
      | exact ⟨52, Nat.le_refl _⟩
      | exact ⟨err9 (okN4 ⟨rfl, rfl, rfl, rfl, rfl, rfl⟩ rfl bA rfl) rfl rfl rfl, (ncN4 ⟨rfl, rfl, rfl, rfl, rfl, rfl⟩).symm, ⟨by omega, by show L + 1 < (4 : Int); omega⟩, f3⟩
      | exact ⟨_, Nat.le_refl _⟩
      | omega
      | trivial
    refine V.anyI fun v6 hv6 => ?_
    have hv6 : v6 = S := by rw [hv6, val_cl (t := T) (k := 4) (by omega) (by decide) hx5]; exact q3
    exact V.needI (beq_iff_eq.2 hv6) V.okI
theorem walkAg (a l s m t : Int) (W : World) (ha : (Lit.int .u8 a).wf = true) (hl : (Lit.int .u8 l).wf = true) (hs : (Lit.int .u8 s).wf = true) (hm : (Lit.int .u8 m).wf = true) (ht : (Lit.int .u8 t).wf = true) :
    Calls P 16 #[.int .u8 a, .int .u8 l, .int .u8 s, .int .u8 m, .int .u8 t] W fun e w' => e = .returned (.bool true) ∧ Below W.heap.size W w' :=
  calls_yesV (vs := [.int .u8 a, .int .u8 l, .int .u8 s, .int .u8 m, .int .u8 t]) conAg_ok (ρ := fun _ _ => none) (vhAg (u8i ha) (u8i hl) (u8i hs) (u8i hm) (u8i ht)) (views_inv fun k b hk => by cases hk) ⟨fun _ _ => rfl, fun _ _ => rfl, fun _ _ => rfl, fun _ _ => rfl, fun _ _ => rfl, trivial⟩
end Go.Proofs.Ytomaagmleafjeaa.Md
