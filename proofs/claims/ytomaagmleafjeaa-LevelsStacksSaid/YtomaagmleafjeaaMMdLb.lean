/- LevelsBits: the conditions, printed by program. -/
import Derived.Test.YtomaagmleafjeaaMMdLbD
import Derived.Test.YtomaagmleafjeaaMW
import Derived.Test.YtomaagmleafjeaaMMdLbL
import Derived.Test.YtomaagmleafjeaaMMd
set_option linter.unusedVariables false
set_option linter.unusedSimpArgs false
set_option linter.unusedVariables false
set_option maxRecDepth 100000
namespace Go.Proofs.Ytomaagmleafjeaa.Md
open Go Go.RowKit Sx Cn Dc Ck Vc

set_option maxHeartbeats 8000000 in
theorem verLb_eq (a : Int) (g : Nat → Int) (len cap : Nat) : verLb a g len cap =
  V.br (decide ((↑len : Int) > Int.ofNat 80)) V.ok
    (nN [(1, .neI 5 0)]
    (V.need ((U8 0 fun (x : Nat) => Int.ofNat 0) ∧ 0 ≤ 9)
    (V.need (∃ (x : Nat × Nat × (Nat → Nat)), 1 ≤ x.fst)
    (V.any (Nat × Nat × (Nat → Nat)) (fun (x : Nat × Nat × (Nat → Nat)) => 1 ≤ x.fst) fun (x : Nat × Nat × (Nat → Nat)) => nN [(1, .eqI 1 1), (1, .pf (IntKind.i64.wrap (Int.ofNat 1 + IntKind.i64.wrap (a.tmod (Int.ofNat 5))) = IntKind.i64.wrap (Int.ofNat 1 + IntKind.i64.wrap (a.tmod (Int.ofNat 5)))) rfl), (2, .eqI 1 1), (1, .eqI 3 3), (2, .eqI 1 1), (1, .eqI 0 0), (1, .eqI 1 1), (1, .eq 1 1), (1, .pf (x.fst = x.fst) rfl), (1, .eq 0 0), (1, .pf (x.snd.fst = x.snd.fst) rfl), (1, .le 1 1)]
    (V.need (1 ≤ 1 ∧ 1 ≤ x.fst)
    (nN [(1, .pf (∀ (i e : Nat), i = 0 ∧ e < 1 → e = e) (by intros; rfl)), (1, .pf (∀ (i e : Nat), i = 0 ∧ e < 1 → 0 = 0) (by intros; rfl)), (1, .pf (∀ (i e : Nat), i = 0 ∧ e < 1 → x.snd.snd e = x.snd.snd e) (by intros; rfl)), (1, .le 1 1)]
    (V.need (0 ≤ 0 ∧ 0 ≤ x.snd.fst)
    (nN [(1, .pf (∀ (i e : Nat), i = 0 ∧ e < 0 → uP (fun (x : Nat) => Int.ofNat 0) 0 e = uP (fun (x : Nat) => Int.ofNat 0) 0 e) (by intros; rfl)), (1, .pf (∀ (i e : Nat), i = 0 ∧ e < 0 → uL (fun (x : Nat) => Int.ofNat 0) 0 e = uL (fun (x : Nat) => Int.ofNat 0) 0 e) (by intros; rfl)), (1, .pf (∀ (i e : Nat), i = 0 ∧ e < 0 → uD (fun (x : Nat) => Int.ofNat 0) 0 e = uD (fun (x : Nat) => Int.ofNat 0) 0 e) (by intros; rfl))]
    (V.need (∀ (i : Nat), i < 1 → 0 ≤ gd 1 (fun (x : Nat) => 0) i ∧ 0 ≤ gd 1 (fun (e : Nat) => x.snd.snd e) i)
    (nN [(1, .pf (∀ (i e : Nat), i < 1 ∧ e < 0 → cO (fun (x : Nat) => Int.ofNat 0) 0 i e = cO (fun (x : Nat) => Int.ofNat 0) 0 i e) (by intros; rfl)), (1, .pf (∀ (i e : Nat), i < 1 ∧ e < 0 → cA (fun (x : Nat) => Int.ofNat 0) 0 i e = cA (fun (x : Nat) => Int.ofNat 0) 0 i e) (by intros; rfl)), (1, .pf (∀ (i e : Nat), i < 1 ∧ e < 0 → cB (fun (x : Nat) => Int.ofNat 0) 0 i e = cB (fun (x : Nat) => Int.ofNat 0) 0 i e) (by intros; rfl))]
    (V.need (errE (Cf.mk (Int.ofNat 1) (IntKind.i64.wrap (Int.ofNat 1 + IntKind.i64.wrap (a.tmod (Int.ofNat 5)))) (Int.ofNat 1) (Int.ofNat 1) (Int.ofNat 3) (Int.ofNat 1) (Int.ofNat 1) (Int.ofNat 0) (Int.ofNat 1) 1 x.fst 0 x.snd.fst (fun (e : Nat) => 0) (fun (e : Nat) => x.snd.snd e) (fun (i e : Nat) => cO (fun (x : Nat) => Int.ofNat 0) 0 i e) (fun (i e : Nat) => cA (fun (x : Nat) => Int.ofNat 0) 0 i e) (fun (i e : Nat) => cB (fun (x : Nat) => Int.ofNat 0) 0 i e) (fun (e : Nat) => uP (fun (x : Nat) => Int.ofNat 0) 0 e) (fun (e : Nat) => uL (fun (x : Nat) => Int.ofNat 0) 0 e) fun (e : Nat) => uD (fun (x : Nat) => Int.ofNat 0) 0 e) = Int.ofNat 0)
    (V.need (∃ (x_1 : Cf × Nat), IsCl (Cf.mk (Int.ofNat 1) (IntKind.i64.wrap (Int.ofNat 1 + IntKind.i64.wrap (a.tmod (Int.ofNat 5)))) (Int.ofNat 1) (Int.ofNat 1) (Int.ofNat 3) (Int.ofNat 1) (Int.ofNat 1) (Int.ofNat 0) (Int.ofNat 1) 1 x.fst 0 x.snd.fst (fun (e : Nat) => 0) (fun (e : Nat) => x.snd.snd e) (fun (i e : Nat) => cO (fun (x : Nat) => Int.ofNat 0) 0 i e) (fun (i e : Nat) => cA (fun (x : Nat) => Int.ofNat 0) 0 i e) (fun (i e : Nat) => cB (fun (x : Nat) => Int.ofNat 0) 0 i e) (fun (e : Nat) => uP (fun (x : Nat) => Int.ofNat 0) 0 e) (fun (e : Nat) => uL (fun (x : Nat) => Int.ofNat 0) 0 e) fun (e : Nat) => uD (fun (x : Nat) => Int.ofNat 0) 0 e) x_1.fst ∧ (Int.ofNat 1).toNat ≤ x_1.snd)
    (V.any (Cf × Nat) (fun (x_1 : Cf × Nat) => IsCl (Cf.mk (Int.ofNat 1) (IntKind.i64.wrap (Int.ofNat 1 + IntKind.i64.wrap (a.tmod (Int.ofNat 5)))) (Int.ofNat 1) (Int.ofNat 1) (Int.ofNat 3) (Int.ofNat 1) (Int.ofNat 1) (Int.ofNat 0) (Int.ofNat 1) 1 x.fst 0 x.snd.fst (fun (e : Nat) => 0) (fun (e : Nat) => x.snd.snd e) (fun (i e : Nat) => cO (fun (x : Nat) => Int.ofNat 0) 0 i e) (fun (i e : Nat) => cA (fun (x : Nat) => Int.ofNat 0) 0 i e) (fun (i e : Nat) => cB (fun (x : Nat) => Int.ofNat 0) 0 i e) (fun (e : Nat) => uP (fun (x : Nat) => Int.ofNat 0) 0 e) (fun (e : Nat) => uL (fun (x : Nat) => Int.ofNat 0) 0 e) fun (e : Nat) => uD (fun (x : Nat) => Int.ofNat 0) 0 e) x_1.fst ∧ (Int.ofNat 1).toNat ≤ x_1.snd) fun (x_1 : Cf × Nat) => nN [(1, .pf (∃ (x_2 : Nat × Int), x_2 = (ncN (Cf.mk (Int.ofNat 1) (IntKind.i64.wrap (Int.ofNat 1 + IntKind.i64.wrap (a.tmod (Int.ofNat 5)))) (Int.ofNat 1) (Int.ofNat 1) (Int.ofNat 3) (Int.ofNat 1) (Int.ofNat 1) (Int.ofNat 0) (Int.ofNat 1) 1 x.fst 0 x.snd.fst (fun (e : Nat) => 0) (fun (e : Nat) => x.snd.snd e) (fun (i e : Nat) => cO (fun (x : Nat) => Int.ofNat 0) 0 i e) (fun (i e : Nat) => cA (fun (x : Nat) => Int.ofNat 0) 0 i e) (fun (i e : Nat) => cB (fun (x : Nat) => Int.ofNat 0) 0 i e) (fun (e : Nat) => uP (fun (x : Nat) => Int.ofNat 0) 0 e) (fun (e : Nat) => uL (fun (x : Nat) => Int.ofNat 0) 0 e) fun (e : Nat) => uD (fun (x : Nat) => Int.ofNat 0) 0 e), lT (Cf.mk (Int.ofNat 1) (IntKind.i64.wrap (Int.ofNat 1 + IntKind.i64.wrap (a.tmod (Int.ofNat 5)))) (Int.ofNat 1) (Int.ofNat 1) (Int.ofNat 3) (Int.ofNat 1) (Int.ofNat 1) (Int.ofNat 0) (Int.ofNat 1) 1 x.fst 0 x.snd.fst (fun (e : Nat) => 0) (fun (e : Nat) => x.snd.snd e) (fun (i e : Nat) => cO (fun (x : Nat) => Int.ofNat 0) 0 i e) (fun (i e : Nat) => cA (fun (x : Nat) => Int.ofNat 0) 0 i e) (fun (i e : Nat) => cB (fun (x : Nat) => Int.ofNat 0) 0 i e) (fun (e : Nat) => uP (fun (x : Nat) => Int.ofNat 0) 0 e) (fun (e : Nat) => uL (fun (x : Nat) => Int.ofNat 0) 0 e) fun (e : Nat) => uD (fun (x : Nat) => Int.ofNat 0) 0 e))) ⟨_, rfl⟩)]
    (V.any (Nat × Int) (fun (q : Nat × Int) => q = (ncN (Cf.mk (Int.ofNat 1) (IntKind.i64.wrap (Int.ofNat 1 + IntKind.i64.wrap (a.tmod (Int.ofNat 5)))) (Int.ofNat 1) (Int.ofNat 1) (Int.ofNat 3) (Int.ofNat 1) (Int.ofNat 1) (Int.ofNat 0) (Int.ofNat 1) 1 x.fst 0 x.snd.fst (fun (e : Nat) => 0) (fun (e : Nat) => x.snd.snd e) (fun (i e : Nat) => cO (fun (x : Nat) => Int.ofNat 0) 0 i e) (fun (i e : Nat) => cA (fun (x : Nat) => Int.ofNat 0) 0 i e) (fun (i e : Nat) => cB (fun (x : Nat) => Int.ofNat 0) 0 i e) (fun (e : Nat) => uP (fun (x : Nat) => Int.ofNat 0) 0 e) (fun (e : Nat) => uL (fun (x : Nat) => Int.ofNat 0) 0 e) fun (e : Nat) => uD (fun (x : Nat) => Int.ofNat 0) 0 e), lT (Cf.mk (Int.ofNat 1) (IntKind.i64.wrap (Int.ofNat 1 + IntKind.i64.wrap (a.tmod (Int.ofNat 5)))) (Int.ofNat 1) (Int.ofNat 1) (Int.ofNat 3) (Int.ofNat 1) (Int.ofNat 1) (Int.ofNat 0) (Int.ofNat 1) 1 x.fst 0 x.snd.fst (fun (e : Nat) => 0) (fun (e : Nat) => x.snd.snd e) (fun (i e : Nat) => cO (fun (x : Nat) => Int.ofNat 0) 0 i e) (fun (i e : Nat) => cA (fun (x : Nat) => Int.ofNat 0) 0 i e) (fun (i e : Nat) => cB (fun (x : Nat) => Int.ofNat 0) 0 i e) (fun (e : Nat) => uP (fun (x : Nat) => Int.ofNat 0) 0 e) (fun (e : Nat) => uL (fun (x : Nat) => Int.ofNat 0) 0 e) fun (e : Nat) => uD (fun (x : Nat) => Int.ofNat 0) 0 e))) fun (x : Nat × Int) => V.need True
    (V.need (0 ≤ len ∧ Wf (yW (nLb a) (Int.ofNat 3)) x.fst (nLb a).toNat (Mm.mk (fun (e : Nat) => Int.ofNat 0) (Int.ofNat 0) (Int.ofNat 0) (Int.ofNat 0) (Int.ofNat 0) (Int.ofNat 0)) ∧ ∀ (v : Nat), v < (nLb a).toNat → Int.ofNat 0 ≤ (↑0 : Int))
    (V.need (Int.ofNat 0 = (↑0 : Int))
    (nN [(2, .pf (x.fst = x.fst) rfl), (5, .eqI 0 0), (1, .pf (x.fst = x.fst) rfl), (1, .pf (x.fst ≤ x.fst) (Nat.le_refl _)), (1, .pf (∀ (e : Nat), e < x.fst → Int.ofNat 0 = Int.ofNat 0) (by intros; rfl))]
    (V.any XLb (okLb (nLb a) x.fst len) fun (x_2 : XLb) => V.br (decide ((↑x_2.i : Int) < (↑len : Int)))
    (V.need (Int.ofNat 0 ≤ (↑x_2.i : Int) ∧ (↑x_2.i : Int) < (↑len : Int))
    (V.need (0 < 1 ∧ 0 + (↑x_2.i : Int).toNat < len)
    (V.need (0 < 1 ∧ 0 + (↑x_2.i : Int).toNat < len)
    (V.br (decide (g (0 + (↑x_2.i : Int).toNat) > Int.ofNat 0))
    (V.need (Int.ofNat 0 ≤ (↑x_2.i : Int) ∧ (↑x_2.i : Int) < (↑len : Int))
    (V.need (0 < 1 ∧ 0 + (↑x_2.i : Int).toNat < len)
    (V.need (0 < 1 ∧ 0 + (↑x_2.i : Int).toNat < len)
    (V.need (IntKind.i64.wrap (Int.ofNat 1 + IntKind.i64.wrap (a.tmod (Int.ofNat 5))) ≠ Int.ofNat 0)
    (V.need (Int.ofNat 30 = (↑30 : Int))
    (nN [(1, .le 1 1), (1, .pf (∀ (i : Nat), i < 1 → 1 ≤ 1) (by intros; exact Nat.le_refl _)), (1, .eqI 1 1), (1, .pf (IntKind.i64.wrap (Int.ofNat 1 + IntKind.i64.wrap (a.tmod (Int.ofNat 5))) = IntKind.i64.wrap (Int.ofNat 1 + IntKind.i64.wrap (a.tmod (Int.ofNat 5)))) rfl), (2, .eqI 1 1), (1, .eqI 3 3), (1, .eqI 1 1), (1, .eqI 5 5), (1, .eqI 6 6), (1, .eqI 7 7), (1, .eqI 8 8), (1, .pf (x.snd = x.snd) rfl), (2, .pf (x.fst = x.fst) rfl), (1, .pf (x_2.m.lk = x_2.m.lk) rfl), (1, .pf (x_2.m.lc = x_2.m.lc) rfl), (1, .pf (x_2.m.lo = x_2.m.lo) rfl), (1, .pf (x_2.m.ln = x_2.m.ln) rfl), (1, .pf (x_2.m.ct = x_2.m.ct) rfl), (1, .pf (x.fst = x.fst) rfl), (1, .pf (x.fst ≤ x.fst) (Nat.le_refl _)), (1, .pf (∀ (e : Nat), e < x.fst → x_2.m.g e = x_2.m.g e) (by intros; rfl)), (1, .eqI 0 0), (1, .pf ((g (0 + (↑x_2.i : Int).toNat)).tmod (IntKind.i64.wrap (Int.ofNat 1 + IntKind.i64.wrap (a.tmod (Int.ofNat 5)))) = (g (0 + (↑x_2.i : Int).toNat)).tmod (IntKind.i64.wrap (Int.ofNat 1 + IntKind.i64.wrap (a.tmod (Int.ofNat 5))))) rfl), (1, .pf ((↑x_2.i : Int) = (↑x_2.i : Int)) rfl)]
    (V.need (pPu (AP.mk (Ly.mk (Int.ofNat 1) (IntKind.i64.wrap (Int.ofNat 1 + IntKind.i64.wrap (a.tmod (Int.ofNat 5)))) (Int.ofNat 1) (Int.ofNat 1) (Int.ofNat 3) (Int.ofNat 1) (Int.ofNat 5) (Int.ofNat 6) (Int.ofNat 7) (Int.ofNat 8) x.snd) 8 9 (NV.s x.fst) (NV.s x.fst) (Mm.mk (fun (e : Nat) => x_2.m.g e) x_2.m.lk x_2.m.lc x_2.m.lo x_2.m.ln x_2.m.ct)) (Int.ofNat 0) 30)
    (nN [(1, .pf (∃ (x_3 : Rs), x_3 = puR (Ly.mk (Int.ofNat 1) (IntKind.i64.wrap (Int.ofNat 1 + IntKind.i64.wrap (a.tmod (Int.ofNat 5)))) (Int.ofNat 1) (Int.ofNat 1) (Int.ofNat 3) (Int.ofNat 1) (Int.ofNat 5) (Int.ofNat 6) (Int.ofNat 7) (Int.ofNat 8) x.snd) x.fst (Int.ofNat 0) ((g (0 + (↑x_2.i : Int).toNat)).tmod (IntKind.i64.wrap (Int.ofNat 1 + IntKind.i64.wrap (a.tmod (Int.ofNat 5))))) (↑x_2.i : Int) 30 (Mm.mk (fun (e : Nat) => x_2.m.g e) x_2.m.lk x_2.m.lc x_2.m.lo x_2.m.ln x_2.m.ct)) ⟨_, rfl⟩)]
    (V.any Rs (fun (r : Rs) => r = puR (Ly.mk (Int.ofNat 1) (IntKind.i64.wrap (Int.ofNat 1 + IntKind.i64.wrap (a.tmod (Int.ofNat 5)))) (Int.ofNat 1) (Int.ofNat 1) (Int.ofNat 3) (Int.ofNat 1) (Int.ofNat 5) (Int.ofNat 6) (Int.ofNat 7) (Int.ofNat 8) x.snd) x.fst (Int.ofNat 0) ((g (0 + (↑x_2.i : Int).toNat)).tmod (IntKind.i64.wrap (Int.ofNat 1 + IntKind.i64.wrap (a.tmod (Int.ofNat 5))))) (↑x_2.i : Int) 30 (Mm.mk (fun (e : Nat) => x_2.m.g e) x_2.m.lk x_2.m.lc x_2.m.lo x_2.m.ln x_2.m.ct)) fun (x_3 : Rs) => V.need (nLb a - (↑0 : Int)).NonNeg
    (V.need (Int.ofNat 0 = (↑0 : Int))
    (V.any Nat (fun (v : Nat) => (↑v : Int) ≤ nLb a) fun (x_4 : Nat) => V.br (decide ((↑x_4 : Int) < IntKind.i64.wrap (Int.ofNat 1 + IntKind.i64.wrap (a.tmod (Int.ofNat 5)))))
    (nN [(11, .lt2 0 1 0 1)]
    (V.br false
    (nN [(5, .lt2 0 1 0 1), (1, .pf (Int.negSucc 0 = Int.negSucc 0) rfl), (1, .le 1 1), (1, .pf (∀ (i : Nat), i < 1 → 1 ≤ 1) (by intros; exact Nat.le_refl _)), (2, .pf (x.fst = x.fst) rfl), (1, .pf (x_3.m.ct = x_3.m.ct) rfl), (1, .le 1 1), (1, .pf (∀ (i : Nat), i < 1 → x.fst ≤ x.fst) (by intros; exact Nat.le_refl _)), (1, .pf (∀ (i e : Nat), i < 1 ∧ e < x.fst → x_3.m.g e = x_3.m.g e) (by intros; rfl)), (1, .pf (∃ (x_5 : Int), x_5 = (Mm.mk (fun (e : Nat) => x_3.m.g e) x_3.m.lk x_3.m.lc x_3.m.lo x_3.m.ln x_3.m.ct).val x.fst (Int.negSucc 0)) ⟨_, rfl⟩)]
    (V.any Int (fun (v : Int) => v = (Mm.mk (fun (e : Nat) => x_3.m.g e) x_3.m.lk x_3.m.lc x_3.m.lo x_3.m.ln x_3.m.ct).val x.fst (Int.negSucc 0)) fun (x_5 : Int) => nN [(5, .lt2 0 1 0 1), (1, .pf (Int.negSucc 0 = Int.negSucc 0) rfl), (1, .le 1 1), (1, .pf (∀ (i : Nat), i < 1 → 1 ≤ 1) (by intros; exact Nat.le_refl _)), (2, .pf (x.fst = x.fst) rfl), (1, .pf (x_3.m.ct = x_3.m.ct) rfl), (1, .le 1 1), (1, .pf (∀ (i : Nat), i < 1 → x.fst ≤ x.fst) (by intros; exact Nat.le_refl _)), (1, .pf (∀ (i e : Nat), i < 1 ∧ e < x.fst → x_3.m.g e = x_3.m.g e) (by intros; rfl)), (1, .pf (∃ (x_6 : Int), x_6 = (Mm.mk (fun (e : Nat) => x_3.m.g e) x_3.m.lk x_3.m.lc x_3.m.lo x_3.m.ln x_3.m.ct).val x.fst (Int.negSucc 0)) ⟨_, rfl⟩)]
    (V.any Int (fun (v : Int) => v = (Mm.mk (fun (e : Nat) => x_3.m.g e) x_3.m.lk x_3.m.lc x_3.m.lo x_3.m.ln x_3.m.ct).val x.fst (Int.negSucc 0)) fun (x_6 : Int) => V.br (decide (IntKind.i64.wrap (IntKind.u64.wrap (x_5 - x_6)) > Int.ofNat 0))
    (nN [(14, .lt2 0 1 0 1), (1, .eqI 7 7), (1, .le 1 1), (1, .pf (∀ (i : Nat), i < 1 → 1 ≤ 1) (by intros; exact Nat.le_refl _)), (2, .pf (x.fst = x.fst) rfl), (1, .pf (x_3.m.ct = x_3.m.ct) rfl), (1, .le 1 1), (1, .pf (∀ (i : Nat), i < 1 → x.fst ≤ x.fst) (by intros; exact Nat.le_refl _)), (1, .pf (∀ (i e : Nat), i < 1 ∧ e < x.fst → x_3.m.g e = x_3.m.g e) (by intros; rfl)), (1, .pf (∃ (x_7 : Int), x_7 = (Mm.mk (fun (e : Nat) => x_3.m.g e) x_3.m.lk x_3.m.lc x_3.m.lo x_3.m.ln x_3.m.ct).val x.fst (Int.ofNat 7)) ⟨_, rfl⟩)]
    (V.any Int (fun (v : Int) => v = (Mm.mk (fun (e : Nat) => x_3.m.g e) x_3.m.lk x_3.m.lc x_3.m.lo x_3.m.ln x_3.m.ct).val x.fst (Int.ofNat 7)) fun (x : Int) => nN [(1, .pf (x = x) rfl), (1, .pf ((↑x_4 : Int) = (↑x_4 : Int)) rfl)]
    (V.need ((Int.ofNat 0 ≤ x ∧ x ≤ Int.ofNat 18446744073709551615) ∧ Int.ofNat 0 ≤ (↑x_4 : Int) ∧ (↑x_4 : Int) ≤ Int.ofNat 63)
    (nN [(1, .pf (∃ (x_7 : Bool), x_7 = bitB x (↑x_4 : Int)) ⟨_, rfl⟩)]
    (V.any Bool (fun (b : Bool) => b = bitB x (↑x_4 : Int)) fun (x : Bool) => V.br (!x)
    (V.bad 420)
    (V.need (nLb a - (↑(IntKind.i64.wrap ((↑x_4 : Int) + Int.ofNat 1)).toNat : Int)).NonNeg
    (V.need ((nLb a).toNat - (IntKind.i64.wrap ((↑x_4 : Int) + Int.ofNat 1)).toNat < (nLb a).toNat - x_4)
    (V.need (IntKind.i64.wrap ((↑x_4 : Int) + Int.ofNat 1) = (↑(IntKind.i64.wrap ((↑x_4 : Int) + Int.ofNat 1)).toNat : Int)) V.ok))))))))
    (V.need (nLb a - (↑(IntKind.i64.wrap ((↑x_4 : Int) + Int.ofNat 1)).toNat : Int)).NonNeg
    (V.need ((nLb a).toNat - (IntKind.i64.wrap ((↑x_4 : Int) + Int.ofNat 1)).toNat < (nLb a).toNat - x_4)
    (V.need (IntKind.i64.wrap ((↑x_4 : Int) + Int.ofNat 1) = (↑(IntKind.i64.wrap ((↑x_4 : Int) + Int.ofNat 1)).toNat : Int)) V.ok))))))
    (V.br (decide ((↑x_4 : Int) ≥ IntKind.i64.wrap (Int.ofNat 1 + IntKind.i64.wrap (a.tmod (Int.ofNat 5)))))
    (nN [(5, .lt2 0 1 0 1), (1, .pf (Int.negSucc 0 = Int.negSucc 0) rfl), (1, .le 1 1), (1, .pf (∀ (i : Nat), i < 1 → 1 ≤ 1) (by intros; exact Nat.le_refl _)), (2, .pf (x.fst = x.fst) rfl), (1, .pf (x_3.m.ct = x_3.m.ct) rfl), (1, .le 1 1), (1, .pf (∀ (i : Nat), i < 1 → x.fst ≤ x.fst) (by intros; exact Nat.le_refl _)), (1, .pf (∀ (i e : Nat), i < 1 ∧ e < x.fst → x_3.m.g e = x_3.m.g e) (by intros; rfl)), (1, .pf (∃ (x_5 : Int), x_5 = (Mm.mk (fun (e : Nat) => x_3.m.g e) x_3.m.lk x_3.m.lc x_3.m.lo x_3.m.ln x_3.m.ct).val x.fst (Int.negSucc 0)) ⟨_, rfl⟩)]
    (V.any Int (fun (v : Int) => v = (Mm.mk (fun (e : Nat) => x_3.m.g e) x_3.m.lk x_3.m.lc x_3.m.lo x_3.m.ln x_3.m.ct).val x.fst (Int.negSucc 0)) fun (x_5 : Int) => nN [(5, .lt2 0 1 0 1), (1, .pf (Int.negSucc 0 = Int.negSucc 0) rfl), (1, .le 1 1), (1, .pf (∀ (i : Nat), i < 1 → 1 ≤ 1) (by intros; exact Nat.le_refl _)), (2, .pf (x.fst = x.fst) rfl), (1, .pf (x_3.m.ct = x_3.m.ct) rfl), (1, .le 1 1), (1, .pf (∀ (i : Nat), i < 1 → x.fst ≤ x.fst) (by intros; exact Nat.le_refl _)), (1, .pf (∀ (i e : Nat), i < 1 ∧ e < x.fst → x_3.m.g e = x_3.m.g e) (by intros; rfl)), (1, .pf (∃ (x_6 : Int), x_6 = (Mm.mk (fun (e : Nat) => x_3.m.g e) x_3.m.lk x_3.m.lc x_3.m.lo x_3.m.ln x_3.m.ct).val x.fst (Int.negSucc 0)) ⟨_, rfl⟩)]
    (V.any Int (fun (v : Int) => v = (Mm.mk (fun (e : Nat) => x_3.m.g e) x_3.m.lk x_3.m.lc x_3.m.lo x_3.m.ln x_3.m.ct).val x.fst (Int.negSucc 0)) fun (x_6 : Int) => V.br (decide (IntKind.i64.wrap (IntKind.u64.wrap (x_5 - x_6)) > Int.ofNat 0))
    (nN [(14, .lt2 0 1 0 1), (1, .eqI 7 7), (1, .le 1 1), (1, .pf (∀ (i : Nat), i < 1 → 1 ≤ 1) (by intros; exact Nat.le_refl _)), (2, .pf (x.fst = x.fst) rfl), (1, .pf (x_3.m.ct = x_3.m.ct) rfl), (1, .le 1 1), (1, .pf (∀ (i : Nat), i < 1 → x.fst ≤ x.fst) (by intros; exact Nat.le_refl _)), (1, .pf (∀ (i e : Nat), i < 1 ∧ e < x.fst → x_3.m.g e = x_3.m.g e) (by intros; rfl)), (1, .pf (∃ (x_7 : Int), x_7 = (Mm.mk (fun (e : Nat) => x_3.m.g e) x_3.m.lk x_3.m.lc x_3.m.lo x_3.m.ln x_3.m.ct).val x.fst (Int.ofNat 7)) ⟨_, rfl⟩)]
    (V.any Int (fun (v : Int) => v = (Mm.mk (fun (e : Nat) => x_3.m.g e) x_3.m.lk x_3.m.lc x_3.m.lo x_3.m.ln x_3.m.ct).val x.fst (Int.ofNat 7)) fun (x : Int) => nN [(1, .pf (x = x) rfl), (1, .pf ((↑x_4 : Int) = (↑x_4 : Int)) rfl)]
    (V.need ((Int.ofNat 0 ≤ x ∧ x ≤ Int.ofNat 18446744073709551615) ∧ Int.ofNat 0 ≤ (↑x_4 : Int) ∧ (↑x_4 : Int) ≤ Int.ofNat 63)
    (nN [(1, .pf (∃ (x_7 : Bool), x_7 = bitB x (↑x_4 : Int)) ⟨_, rfl⟩)]
    (V.any Bool (fun (b : Bool) => b = bitB x (↑x_4 : Int)) fun (x : Bool) => V.br (!x)
    (V.bad 420)
    (V.need (nLb a - (↑(IntKind.i64.wrap ((↑x_4 : Int) + Int.ofNat 1)).toNat : Int)).NonNeg
    (V.need ((nLb a).toNat - (IntKind.i64.wrap ((↑x_4 : Int) + Int.ofNat 1)).toNat < (nLb a).toNat - x_4)
    (V.need (IntKind.i64.wrap ((↑x_4 : Int) + Int.ofNat 1) = (↑(IntKind.i64.wrap ((↑x_4 : Int) + Int.ofNat 1)).toNat : Int)) V.ok))))))))
    (V.need (nLb a - (↑(IntKind.i64.wrap ((↑x_4 : Int) + Int.ofNat 1)).toNat : Int)).NonNeg
    (V.need ((nLb a).toNat - (IntKind.i64.wrap ((↑x_4 : Int) + Int.ofNat 1)).toNat < (nLb a).toNat - x_4)
    (V.need (IntKind.i64.wrap ((↑x_4 : Int) + Int.ofNat 1) = (↑(IntKind.i64.wrap ((↑x_4 : Int) + Int.ofNat 1)).toNat : Int)) V.ok))))))
    (nN [(20, .lt2 0 1 0 1), (1, .pf (IntKind.i64.wrap (IntKind.i64.wrap (Int.ofNat 8 + IntKind.i64.wrap (IntKind.i64.wrap (IntKind.i64.wrap (Int.ofNat 0 * IntKind.i64.wrap (Int.ofNat 1 + IntKind.i64.wrap (a.tmod (Int.ofNat 5)))) + (↑x_4 : Int)) * Int.ofNat 5)) + Int.ofNat 1) = IntKind.i64.wrap (IntKind.i64.wrap (Int.ofNat 8 + IntKind.i64.wrap (IntKind.i64.wrap (IntKind.i64.wrap (Int.ofNat 0 * IntKind.i64.wrap (Int.ofNat 1 + IntKind.i64.wrap (a.tmod (Int.ofNat 5)))) + (↑x_4 : Int)) * Int.ofNat 5)) + Int.ofNat 1)) rfl), (1, .le 1 1), (1, .pf (∀ (i : Nat), i < 1 → 1 ≤ 1) (by intros; exact Nat.le_refl _)), (2, .pf (x.fst = x.fst) rfl), (1, .pf (x_3.m.ct = x_3.m.ct) rfl), (1, .le 1 1), (1, .pf (∀ (i : Nat), i < 1 → x.fst ≤ x.fst) (by intros; exact Nat.le_refl _)), (1, .pf (∀ (i e : Nat), i < 1 ∧ e < x.fst → x_3.m.g e = x_3.m.g e) (by intros; rfl)), (1, .pf (∃ (x_5 : Int), x_5 = (Mm.mk (fun (e : Nat) => x_3.m.g e) x_3.m.lk x_3.m.lc x_3.m.lo x_3.m.ln x_3.m.ct).val x.fst (IntKind.i64.wrap (IntKind.i64.wrap (Int.ofNat 8 + IntKind.i64.wrap (IntKind.i64.wrap (IntKind.i64.wrap (Int.ofNat 0 * IntKind.i64.wrap (Int.ofNat 1 + IntKind.i64.wrap (a.tmod (Int.ofNat 5)))) + (↑x_4 : Int)) * Int.ofNat 5)) + Int.ofNat 1))) ⟨_, rfl⟩)]
    (V.any Int (fun (v : Int) => v = (Mm.mk (fun (e : Nat) => x_3.m.g e) x_3.m.lk x_3.m.lc x_3.m.lo x_3.m.ln x_3.m.ct).val x.fst (IntKind.i64.wrap (IntKind.i64.wrap (Int.ofNat 8 + IntKind.i64.wrap (IntKind.i64.wrap (IntKind.i64.wrap (Int.ofNat 0 * IntKind.i64.wrap (Int.ofNat 1 + IntKind.i64.wrap (a.tmod (Int.ofNat 5)))) + (↑x_4 : Int)) * Int.ofNat 5)) + Int.ofNat 1))) fun (x_5 : Int) => nN [(5, .lt2 0 1 0 1), (1, .pf (IntKind.i64.wrap (Int.ofNat 8 + IntKind.i64.wrap (IntKind.i64.wrap (IntKind.i64.wrap (Int.ofNat 0 * IntKind.i64.wrap (Int.ofNat 1 + IntKind.i64.wrap (a.tmod (Int.ofNat 5)))) + (↑x_4 : Int)) * Int.ofNat 5)) = IntKind.i64.wrap (Int.ofNat 8 + IntKind.i64.wrap (IntKind.i64.wrap (IntKind.i64.wrap (Int.ofNat 0 * IntKind.i64.wrap (Int.ofNat 1 + IntKind.i64.wrap (a.tmod (Int.ofNat 5)))) + (↑x_4 : Int)) * Int.ofNat 5))) rfl), (1, .le 1 1), (1, .pf (∀ (i : Nat), i < 1 → 1 ≤ 1) (by intros; exact Nat.le_refl _)), (2, .pf (x.fst = x.fst) rfl), (1, .pf (x_3.m.ct = x_3.m.ct) rfl), (1, .le 1 1), (1, .pf (∀ (i : Nat), i < 1 → x.fst ≤ x.fst) (by intros; exact Nat.le_refl _)), (1, .pf (∀ (i e : Nat), i < 1 ∧ e < x.fst → x_3.m.g e = x_3.m.g e) (by intros; rfl)), (1, .pf (∃ (x_6 : Int), x_6 = (Mm.mk (fun (e : Nat) => x_3.m.g e) x_3.m.lk x_3.m.lc x_3.m.lo x_3.m.ln x_3.m.ct).val x.fst (IntKind.i64.wrap (Int.ofNat 8 + IntKind.i64.wrap (IntKind.i64.wrap (IntKind.i64.wrap (Int.ofNat 0 * IntKind.i64.wrap (Int.ofNat 1 + IntKind.i64.wrap (a.tmod (Int.ofNat 5)))) + (↑x_4 : Int)) * Int.ofNat 5)))) ⟨_, rfl⟩)]
    (V.any Int (fun (v : Int) => v = (Mm.mk (fun (e : Nat) => x_3.m.g e) x_3.m.lk x_3.m.lc x_3.m.lo x_3.m.ln x_3.m.ct).val x.fst (IntKind.i64.wrap (Int.ofNat 8 + IntKind.i64.wrap (IntKind.i64.wrap (IntKind.i64.wrap (Int.ofNat 0 * IntKind.i64.wrap (Int.ofNat 1 + IntKind.i64.wrap (a.tmod (Int.ofNat 5)))) + (↑x_4 : Int)) * Int.ofNat 5)))) fun (x_6 : Int) => V.br (decide (IntKind.i64.wrap (IntKind.u64.wrap (x_5 - x_6)) > Int.ofNat 0))
    (nN [(14, .lt2 0 1 0 1), (1, .eqI 7 7), (1, .le 1 1), (1, .pf (∀ (i : Nat), i < 1 → 1 ≤ 1) (by intros; exact Nat.le_refl _)), (2, .pf (x.fst = x.fst) rfl), (1, .pf (x_3.m.ct = x_3.m.ct) rfl), (1, .le 1 1), (1, .pf (∀ (i : Nat), i < 1 → x.fst ≤ x.fst) (by intros; exact Nat.le_refl _)), (1, .pf (∀ (i e : Nat), i < 1 ∧ e < x.fst → x_3.m.g e = x_3.m.g e) (by intros; rfl)), (1, .pf (∃ (x_7 : Int), x_7 = (Mm.mk (fun (e : Nat) => x_3.m.g e) x_3.m.lk x_3.m.lc x_3.m.lo x_3.m.ln x_3.m.ct).val x.fst (Int.ofNat 7)) ⟨_, rfl⟩)]
    (V.any Int (fun (v : Int) => v = (Mm.mk (fun (e : Nat) => x_3.m.g e) x_3.m.lk x_3.m.lc x_3.m.lo x_3.m.ln x_3.m.ct).val x.fst (Int.ofNat 7)) fun (x : Int) => nN [(1, .pf (x = x) rfl), (1, .pf ((↑x_4 : Int) = (↑x_4 : Int)) rfl)]
    (V.need ((Int.ofNat 0 ≤ x ∧ x ≤ Int.ofNat 18446744073709551615) ∧ Int.ofNat 0 ≤ (↑x_4 : Int) ∧ (↑x_4 : Int) ≤ Int.ofNat 63)
    (nN [(1, .pf (∃ (x_7 : Bool), x_7 = bitB x (↑x_4 : Int)) ⟨_, rfl⟩)]
    (V.any Bool (fun (b : Bool) => b = bitB x (↑x_4 : Int)) fun (x : Bool) => V.br (!x)
    (V.bad 420)
    (V.need (nLb a - (↑(IntKind.i64.wrap ((↑x_4 : Int) + Int.ofNat 1)).toNat : Int)).NonNeg
    (V.need ((nLb a).toNat - (IntKind.i64.wrap ((↑x_4 : Int) + Int.ofNat 1)).toNat < (nLb a).toNat - x_4)
    (V.need (IntKind.i64.wrap ((↑x_4 : Int) + Int.ofNat 1) = (↑(IntKind.i64.wrap ((↑x_4 : Int) + Int.ofNat 1)).toNat : Int)) V.ok))))))))
    (V.need (nLb a - (↑(IntKind.i64.wrap ((↑x_4 : Int) + Int.ofNat 1)).toNat : Int)).NonNeg
    (V.need ((nLb a).toNat - (IntKind.i64.wrap ((↑x_4 : Int) + Int.ofNat 1)).toNat < (nLb a).toNat - x_4)
    (V.need (IntKind.i64.wrap ((↑x_4 : Int) + Int.ofNat 1) = (↑(IntKind.i64.wrap ((↑x_4 : Int) + Int.ofNat 1)).toNat : Int)) V.ok)))))))))
    (V.need ((IntKind.i64.wrap ((↑x_2.i : Int) + Int.ofNat 1)).toNat ≤ len ∧ Wf (yW (nLb a) (Int.ofNat 3)) x.fst (nLb a).toNat (Mm.mk (fun (e : Nat) => x_3.m.g e) x_3.m.lk x_3.m.lc x_3.m.lo x_3.m.ln x_3.m.ct) ∧ ∀ (v : Nat), v < (nLb a).toNat → x_3.m.g (Tq (yW (nLb a) (Int.ofNat 3)) v + Int.ofNat 1).toNat ≤ (↑(IntKind.i64.wrap ((↑x_2.i : Int) + Int.ofNat 1)).toNat : Int))
    (V.need (len - (IntKind.i64.wrap ((↑x_2.i : Int) + Int.ofNat 1)).toNat < len - x_2.i)
    (V.need (IntKind.i64.wrap ((↑x_2.i : Int) + Int.ofNat 1) = (↑(IntKind.i64.wrap ((↑x_2.i : Int) + Int.ofNat 1)).toNat : Int))
    (nN [(2, .pf (x.fst = x.fst) rfl), (1, .pf (x_3.m.lk = x_3.m.lk) rfl), (1, .pf (x_3.m.lc = x_3.m.lc) rfl), (1, .pf (x_3.m.lo = x_3.m.lo) rfl), (1, .pf (x_3.m.ln = x_3.m.ln) rfl), (1, .pf (x_3.m.ct = x_3.m.ct) rfl), (1, .pf (x.fst = x.fst) rfl), (1, .pf (x.fst ≤ x.fst) (Nat.le_refl _)), (1, .pf (∀ (e : Nat), e < x.fst → x_3.m.g e = x_3.m.g e) (by intros; rfl))] V.ok)))))))))))))))
    (V.need (Int.ofNat 200 = (↑200 : Int))
    (nN [(1, .le 1 1), (1, .pf (∀ (i : Nat), i < 1 → 1 ≤ 1) (by intros; exact Nat.le_refl _)), (1, .eqI 1 1), (1, .pf (IntKind.i64.wrap (Int.ofNat 1 + IntKind.i64.wrap (a.tmod (Int.ofNat 5))) = IntKind.i64.wrap (Int.ofNat 1 + IntKind.i64.wrap (a.tmod (Int.ofNat 5)))) rfl), (2, .eqI 1 1), (1, .eqI 3 3), (1, .eqI 1 1), (1, .eqI 5 5), (1, .eqI 6 6), (1, .eqI 7 7), (1, .eqI 8 8), (1, .pf (x.snd = x.snd) rfl), (2, .pf (x.fst = x.fst) rfl), (1, .pf (x_2.m.lk = x_2.m.lk) rfl), (1, .pf (x_2.m.lc = x_2.m.lc) rfl), (1, .pf (x_2.m.lo = x_2.m.lo) rfl), (1, .pf (x_2.m.ln = x_2.m.ln) rfl), (1, .pf (x_2.m.ct = x_2.m.ct) rfl), (1, .pf (x.fst = x.fst) rfl), (1, .pf (x.fst ≤ x.fst) (Nat.le_refl _)), (1, .pf (∀ (e : Nat), e < x.fst → x_2.m.g e = x_2.m.g e) (by intros; rfl)), (2, .eqI 0 0)]
    (V.need (pPo (AP.mk (Ly.mk (Int.ofNat 1) (IntKind.i64.wrap (Int.ofNat 1 + IntKind.i64.wrap (a.tmod (Int.ofNat 5)))) (Int.ofNat 1) (Int.ofNat 1) (Int.ofNat 3) (Int.ofNat 1) (Int.ofNat 5) (Int.ofNat 6) (Int.ofNat 7) (Int.ofNat 8) x.snd) 8 9 (NV.s x.fst) (NV.s x.fst) (Mm.mk (fun (e : Nat) => x_2.m.g e) x_2.m.lk x_2.m.lc x_2.m.lo x_2.m.ln x_2.m.ct)) (Int.ofNat 0) 200)
    (nN [(1, .pf (∃ (x_3 : Rs), x_3 = popR (Ly.mk (Int.ofNat 1) (IntKind.i64.wrap (Int.ofNat 1 + IntKind.i64.wrap (a.tmod (Int.ofNat 5)))) (Int.ofNat 1) (Int.ofNat 1) (Int.ofNat 3) (Int.ofNat 1) (Int.ofNat 5) (Int.ofNat 6) (Int.ofNat 7) (Int.ofNat 8) x.snd) x.fst (Int.ofNat 0) 200 (Mm.mk (fun (e : Nat) => x_2.m.g e) x_2.m.lk x_2.m.lc x_2.m.lo x_2.m.ln x_2.m.ct)) ⟨_, rfl⟩)]
    (V.any Rs (fun (r : Rs) => r = popR (Ly.mk (Int.ofNat 1) (IntKind.i64.wrap (Int.ofNat 1 + IntKind.i64.wrap (a.tmod (Int.ofNat 5)))) (Int.ofNat 1) (Int.ofNat 1) (Int.ofNat 3) (Int.ofNat 1) (Int.ofNat 5) (Int.ofNat 6) (Int.ofNat 7) (Int.ofNat 8) x.snd) x.fst (Int.ofNat 0) 200 (Mm.mk (fun (e : Nat) => x_2.m.g e) x_2.m.lk x_2.m.lc x_2.m.lo x_2.m.ln x_2.m.ct)) fun (x_3 : Rs) => V.br (x_3.c == Int.ofNat 2)
    (nN [(14, .lt2 0 1 0 1), (1, .eqI 7 7), (2, .pf (x.fst = x.fst) rfl), (1, .pf (x_3.m.ct = x_3.m.ct) rfl), (1, .le 1 1)]
    (V.need (x.fst ≤ x.fst ∧ x.fst ≤ x.fst)
    (nN [(1, .pf (∀ (i e : Nat), i = 0 ∧ e < x.fst → x_3.m.g e = x_3.m.g e) (by intros; rfl)), (1, .pf (∃ (x_4 : Int), x_4 = (Mm.mk (fun (e : Nat) => x_3.m.g e) x_3.m.lk x_3.m.lc x_3.m.lo x_3.m.ln x_3.m.ct).val x.fst (Int.ofNat 7)) ⟨_, rfl⟩)]
    (V.any Int (fun (v : Int) => v = (Mm.mk (fun (e : Nat) => x_3.m.g e) x_3.m.lk x_3.m.lc x_3.m.lo x_3.m.ln x_3.m.ct).val x.fst (Int.ofNat 7)) fun (x_4 : Int) => V.br (x_4 != Int.ofNat 0)
    (V.bad 420)
    (V.need (nLb a - (↑0 : Int)).NonNeg
    (V.need (Int.ofNat 0 = (↑0 : Int))
    (V.any Nat (fun (v : Nat) => (↑v : Int) ≤ nLb a) fun (x_5 : Nat) => V.br (decide ((↑x_5 : Int) < IntKind.i64.wrap (Int.ofNat 1 + IntKind.i64.wrap (a.tmod (Int.ofNat 5)))))
    (nN [(11, .lt2 0 1 0 1)]
    (V.br false
    (nN [(5, .lt2 0 1 0 1), (1, .pf (Int.negSucc 0 = Int.negSucc 0) rfl), (1, .le 1 1), (1, .pf (∀ (i : Nat), i < 1 → 1 ≤ 1) (by intros; exact Nat.le_refl _)), (2, .pf (x.fst = x.fst) rfl), (1, .pf (x_3.m.ct = x_3.m.ct) rfl), (1, .le 1 1), (1, .pf (∀ (i : Nat), i < 1 → x.fst ≤ x.fst) (by intros; exact Nat.le_refl _)), (1, .pf (∀ (i e : Nat), i < 1 ∧ e < x.fst → x_3.m.g e = x_3.m.g e) (by intros; rfl)), (1, .pf (∃ (x_6 : Int), x_6 = (Mm.mk (fun (e : Nat) => x_3.m.g e) x_3.m.lk x_3.m.lc x_3.m.lo x_3.m.ln x_3.m.ct).val x.fst (Int.negSucc 0)) ⟨_, rfl⟩)]
    (V.any Int (fun (v : Int) => v = (Mm.mk (fun (e : Nat) => x_3.m.g e) x_3.m.lk x_3.m.lc x_3.m.lo x_3.m.ln x_3.m.ct).val x.fst (Int.negSucc 0)) fun (x_6 : Int) => nN [(5, .lt2 0 1 0 1), (1, .pf (Int.negSucc 0 = Int.negSucc 0) rfl), (1, .le 1 1), (1, .pf (∀ (i : Nat), i < 1 → 1 ≤ 1) (by intros; exact Nat.le_refl _)), (2, .pf (x.fst = x.fst) rfl), (1, .pf (x_3.m.ct = x_3.m.ct) rfl), (1, .le 1 1), (1, .pf (∀ (i : Nat), i < 1 → x.fst ≤ x.fst) (by intros; exact Nat.le_refl _)), (1, .pf (∀ (i e : Nat), i < 1 ∧ e < x.fst → x_3.m.g e = x_3.m.g e) (by intros; rfl)), (1, .pf (∃ (x_7 : Int), x_7 = (Mm.mk (fun (e : Nat) => x_3.m.g e) x_3.m.lk x_3.m.lc x_3.m.lo x_3.m.ln x_3.m.ct).val x.fst (Int.negSucc 0)) ⟨_, rfl⟩)]
    (V.any Int (fun (v : Int) => v = (Mm.mk (fun (e : Nat) => x_3.m.g e) x_3.m.lk x_3.m.lc x_3.m.lo x_3.m.ln x_3.m.ct).val x.fst (Int.negSucc 0)) fun (x_7 : Int) => V.br (decide (IntKind.i64.wrap (IntKind.u64.wrap (x_6 - x_7)) > Int.ofNat 0))
    (nN [(14, .lt2 0 1 0 1), (1, .eqI 7 7), (1, .le 1 1), (1, .pf (∀ (i : Nat), i < 1 → 1 ≤ 1) (by intros; exact Nat.le_refl _)), (2, .pf (x.fst = x.fst) rfl), (1, .pf (x_3.m.ct = x_3.m.ct) rfl), (1, .le 1 1), (1, .pf (∀ (i : Nat), i < 1 → x.fst ≤ x.fst) (by intros; exact Nat.le_refl _)), (1, .pf (∀ (i e : Nat), i < 1 ∧ e < x.fst → x_3.m.g e = x_3.m.g e) (by intros; rfl)), (1, .pf (∃ (x_8 : Int), x_8 = (Mm.mk (fun (e : Nat) => x_3.m.g e) x_3.m.lk x_3.m.lc x_3.m.lo x_3.m.ln x_3.m.ct).val x.fst (Int.ofNat 7)) ⟨_, rfl⟩)]
    (V.any Int (fun (v : Int) => v = (Mm.mk (fun (e : Nat) => x_3.m.g e) x_3.m.lk x_3.m.lc x_3.m.lo x_3.m.ln x_3.m.ct).val x.fst (Int.ofNat 7)) fun (x : Int) => nN [(1, .pf (x = x) rfl), (1, .pf ((↑x_5 : Int) = (↑x_5 : Int)) rfl)]
    (V.need ((Int.ofNat 0 ≤ x ∧ x ≤ Int.ofNat 18446744073709551615) ∧ Int.ofNat 0 ≤ (↑x_5 : Int) ∧ (↑x_5 : Int) ≤ Int.ofNat 63)
    (nN [(1, .pf (∃ (x_8 : Bool), x_8 = bitB x (↑x_5 : Int)) ⟨_, rfl⟩)]
    (V.any Bool (fun (b : Bool) => b = bitB x (↑x_5 : Int)) fun (x : Bool) => V.br (!x)
    (V.bad 420)
    (V.need (nLb a - (↑(IntKind.i64.wrap ((↑x_5 : Int) + Int.ofNat 1)).toNat : Int)).NonNeg
    (V.need ((nLb a).toNat - (IntKind.i64.wrap ((↑x_5 : Int) + Int.ofNat 1)).toNat < (nLb a).toNat - x_5)
    (V.need (IntKind.i64.wrap ((↑x_5 : Int) + Int.ofNat 1) = (↑(IntKind.i64.wrap ((↑x_5 : Int) + Int.ofNat 1)).toNat : Int)) V.ok))))))))
    (V.need (nLb a - (↑(IntKind.i64.wrap ((↑x_5 : Int) + Int.ofNat 1)).toNat : Int)).NonNeg
    (V.need ((nLb a).toNat - (IntKind.i64.wrap ((↑x_5 : Int) + Int.ofNat 1)).toNat < (nLb a).toNat - x_5)
    (V.need (IntKind.i64.wrap ((↑x_5 : Int) + Int.ofNat 1) = (↑(IntKind.i64.wrap ((↑x_5 : Int) + Int.ofNat 1)).toNat : Int)) V.ok))))))
    (V.br (decide ((↑x_5 : Int) ≥ IntKind.i64.wrap (Int.ofNat 1 + IntKind.i64.wrap (a.tmod (Int.ofNat 5)))))
    (nN [(5, .lt2 0 1 0 1), (1, .pf (Int.negSucc 0 = Int.negSucc 0) rfl), (1, .le 1 1), (1, .pf (∀ (i : Nat), i < 1 → 1 ≤ 1) (by intros; exact Nat.le_refl _)), (2, .pf (x.fst = x.fst) rfl), (1, .pf (x_3.m.ct = x_3.m.ct) rfl), (1, .le 1 1), (1, .pf (∀ (i : Nat), i < 1 → x.fst ≤ x.fst) (by intros; exact Nat.le_refl _)), (1, .pf (∀ (i e : Nat), i < 1 ∧ e < x.fst → x_3.m.g e = x_3.m.g e) (by intros; rfl)), (1, .pf (∃ (x_6 : Int), x_6 = (Mm.mk (fun (e : Nat) => x_3.m.g e) x_3.m.lk x_3.m.lc x_3.m.lo x_3.m.ln x_3.m.ct).val x.fst (Int.negSucc 0)) ⟨_, rfl⟩)]
    (V.any Int (fun (v : Int) => v = (Mm.mk (fun (e : Nat) => x_3.m.g e) x_3.m.lk x_3.m.lc x_3.m.lo x_3.m.ln x_3.m.ct).val x.fst (Int.negSucc 0)) fun (x_6 : Int) => nN [(5, .lt2 0 1 0 1), (1, .pf (Int.negSucc 0 = Int.negSucc 0) rfl), (1, .le 1 1), (1, .pf (∀ (i : Nat), i < 1 → 1 ≤ 1) (by intros; exact Nat.le_refl _)), (2, .pf (x.fst = x.fst) rfl), (1, .pf (x_3.m.ct = x_3.m.ct) rfl), (1, .le 1 1), (1, .pf (∀ (i : Nat), i < 1 → x.fst ≤ x.fst) (by intros; exact Nat.le_refl _)), (1, .pf (∀ (i e : Nat), i < 1 ∧ e < x.fst → x_3.m.g e = x_3.m.g e) (by intros; rfl)), (1, .pf (∃ (x_7 : Int), x_7 = (Mm.mk (fun (e : Nat) => x_3.m.g e) x_3.m.lk x_3.m.lc x_3.m.lo x_3.m.ln x_3.m.ct).val x.fst (Int.negSucc 0)) ⟨_, rfl⟩)]
    (V.any Int (fun (v : Int) => v = (Mm.mk (fun (e : Nat) => x_3.m.g e) x_3.m.lk x_3.m.lc x_3.m.lo x_3.m.ln x_3.m.ct).val x.fst (Int.negSucc 0)) fun (x_7 : Int) => V.br (decide (IntKind.i64.wrap (IntKind.u64.wrap (x_6 - x_7)) > Int.ofNat 0))
    (nN [(14, .lt2 0 1 0 1), (1, .eqI 7 7), (1, .le 1 1), (1, .pf (∀ (i : Nat), i < 1 → 1 ≤ 1) (by intros; exact Nat.le_refl _)), (2, .pf (x.fst = x.fst) rfl), (1, .pf (x_3.m.ct = x_3.m.ct) rfl), (1, .le 1 1), (1, .pf (∀ (i : Nat), i < 1 → x.fst ≤ x.fst) (by intros; exact Nat.le_refl _)), (1, .pf (∀ (i e : Nat), i < 1 ∧ e < x.fst → x_3.m.g e = x_3.m.g e) (by intros; rfl)), (1, .pf (∃ (x_8 : Int), x_8 = (Mm.mk (fun (e : Nat) => x_3.m.g e) x_3.m.lk x_3.m.lc x_3.m.lo x_3.m.ln x_3.m.ct).val x.fst (Int.ofNat 7)) ⟨_, rfl⟩)]
    (V.any Int (fun (v : Int) => v = (Mm.mk (fun (e : Nat) => x_3.m.g e) x_3.m.lk x_3.m.lc x_3.m.lo x_3.m.ln x_3.m.ct).val x.fst (Int.ofNat 7)) fun (x : Int) => nN [(1, .pf (x = x) rfl), (1, .pf ((↑x_5 : Int) = (↑x_5 : Int)) rfl)]
    (V.need ((Int.ofNat 0 ≤ x ∧ x ≤ Int.ofNat 18446744073709551615) ∧ Int.ofNat 0 ≤ (↑x_5 : Int) ∧ (↑x_5 : Int) ≤ Int.ofNat 63)
    (nN [(1, .pf (∃ (x_8 : Bool), x_8 = bitB x (↑x_5 : Int)) ⟨_, rfl⟩)]
    (V.any Bool (fun (b : Bool) => b = bitB x (↑x_5 : Int)) fun (x : Bool) => V.br (!x)
    (V.bad 420)
    (V.need (nLb a - (↑(IntKind.i64.wrap ((↑x_5 : Int) + Int.ofNat 1)).toNat : Int)).NonNeg
    (V.need ((nLb a).toNat - (IntKind.i64.wrap ((↑x_5 : Int) + Int.ofNat 1)).toNat < (nLb a).toNat - x_5)
    (V.need (IntKind.i64.wrap ((↑x_5 : Int) + Int.ofNat 1) = (↑(IntKind.i64.wrap ((↑x_5 : Int) + Int.ofNat 1)).toNat : Int)) V.ok))))))))
    (V.need (nLb a - (↑(IntKind.i64.wrap ((↑x_5 : Int) + Int.ofNat 1)).toNat : Int)).NonNeg
    (V.need ((nLb a).toNat - (IntKind.i64.wrap ((↑x_5 : Int) + Int.ofNat 1)).toNat < (nLb a).toNat - x_5)
    (V.need (IntKind.i64.wrap ((↑x_5 : Int) + Int.ofNat 1) = (↑(IntKind.i64.wrap ((↑x_5 : Int) + Int.ofNat 1)).toNat : Int)) V.ok))))))
    (nN [(20, .lt2 0 1 0 1), (1, .pf (IntKind.i64.wrap (IntKind.i64.wrap (Int.ofNat 8 + IntKind.i64.wrap (IntKind.i64.wrap (IntKind.i64.wrap (Int.ofNat 0 * IntKind.i64.wrap (Int.ofNat 1 + IntKind.i64.wrap (a.tmod (Int.ofNat 5)))) + (↑x_5 : Int)) * Int.ofNat 5)) + Int.ofNat 1) = IntKind.i64.wrap (IntKind.i64.wrap (Int.ofNat 8 + IntKind.i64.wrap (IntKind.i64.wrap (IntKind.i64.wrap (Int.ofNat 0 * IntKind.i64.wrap (Int.ofNat 1 + IntKind.i64.wrap (a.tmod (Int.ofNat 5)))) + (↑x_5 : Int)) * Int.ofNat 5)) + Int.ofNat 1)) rfl), (1, .le 1 1), (1, .pf (∀ (i : Nat), i < 1 → 1 ≤ 1) (by intros; exact Nat.le_refl _)), (2, .pf (x.fst = x.fst) rfl), (1, .pf (x_3.m.ct = x_3.m.ct) rfl), (1, .le 1 1), (1, .pf (∀ (i : Nat), i < 1 → x.fst ≤ x.fst) (by intros; exact Nat.le_refl _)), (1, .pf (∀ (i e : Nat), i < 1 ∧ e < x.fst → x_3.m.g e = x_3.m.g e) (by intros; rfl)), (1, .pf (∃ (x_6 : Int), x_6 = (Mm.mk (fun (e : Nat) => x_3.m.g e) x_3.m.lk x_3.m.lc x_3.m.lo x_3.m.ln x_3.m.ct).val x.fst (IntKind.i64.wrap (IntKind.i64.wrap (Int.ofNat 8 + IntKind.i64.wrap (IntKind.i64.wrap (IntKind.i64.wrap (Int.ofNat 0 * IntKind.i64.wrap (Int.ofNat 1 + IntKind.i64.wrap (a.tmod (Int.ofNat 5)))) + (↑x_5 : Int)) * Int.ofNat 5)) + Int.ofNat 1))) ⟨_, rfl⟩)]
    (V.any Int (fun (v : Int) => v = (Mm.mk (fun (e : Nat) => x_3.m.g e) x_3.m.lk x_3.m.lc x_3.m.lo x_3.m.ln x_3.m.ct).val x.fst (IntKind.i64.wrap (IntKind.i64.wrap (Int.ofNat 8 + IntKind.i64.wrap (IntKind.i64.wrap (IntKind.i64.wrap (Int.ofNat 0 * IntKind.i64.wrap (Int.ofNat 1 + IntKind.i64.wrap (a.tmod (Int.ofNat 5)))) + (↑x_5 : Int)) * Int.ofNat 5)) + Int.ofNat 1))) fun (x_6 : Int) => nN [(5, .lt2 0 1 0 1), (1, .pf (IntKind.i64.wrap (Int.ofNat 8 + IntKind.i64.wrap (IntKind.i64.wrap (IntKind.i64.wrap (Int.ofNat 0 * IntKind.i64.wrap (Int.ofNat 1 + IntKind.i64.wrap (a.tmod (Int.ofNat 5)))) + (↑x_5 : Int)) * Int.ofNat 5)) = IntKind.i64.wrap (Int.ofNat 8 + IntKind.i64.wrap (IntKind.i64.wrap (IntKind.i64.wrap (Int.ofNat 0 * IntKind.i64.wrap (Int.ofNat 1 + IntKind.i64.wrap (a.tmod (Int.ofNat 5)))) + (↑x_5 : Int)) * Int.ofNat 5))) rfl), (1, .le 1 1), (1, .pf (∀ (i : Nat), i < 1 → 1 ≤ 1) (by intros; exact Nat.le_refl _)), (2, .pf (x.fst = x.fst) rfl), (1, .pf (x_3.m.ct = x_3.m.ct) rfl), (1, .le 1 1), (1, .pf (∀ (i : Nat), i < 1 → x.fst ≤ x.fst) (by intros; exact Nat.le_refl _)), (1, .pf (∀ (i e : Nat), i < 1 ∧ e < x.fst → x_3.m.g e = x_3.m.g e) (by intros; rfl)), (1, .pf (∃ (x_7 : Int), x_7 = (Mm.mk (fun (e : Nat) => x_3.m.g e) x_3.m.lk x_3.m.lc x_3.m.lo x_3.m.ln x_3.m.ct).val x.fst (IntKind.i64.wrap (Int.ofNat 8 + IntKind.i64.wrap (IntKind.i64.wrap (IntKind.i64.wrap (Int.ofNat 0 * IntKind.i64.wrap (Int.ofNat 1 + IntKind.i64.wrap (a.tmod (Int.ofNat 5)))) + (↑x_5 : Int)) * Int.ofNat 5)))) ⟨_, rfl⟩)]
    (V.any Int (fun (v : Int) => v = (Mm.mk (fun (e : Nat) => x_3.m.g e) x_3.m.lk x_3.m.lc x_3.m.lo x_3.m.ln x_3.m.ct).val x.fst (IntKind.i64.wrap (Int.ofNat 8 + IntKind.i64.wrap (IntKind.i64.wrap (IntKind.i64.wrap (Int.ofNat 0 * IntKind.i64.wrap (Int.ofNat 1 + IntKind.i64.wrap (a.tmod (Int.ofNat 5)))) + (↑x_5 : Int)) * Int.ofNat 5)))) fun (x_7 : Int) => V.br (decide (IntKind.i64.wrap (IntKind.u64.wrap (x_6 - x_7)) > Int.ofNat 0))
    (nN [(14, .lt2 0 1 0 1), (1, .eqI 7 7), (1, .le 1 1), (1, .pf (∀ (i : Nat), i < 1 → 1 ≤ 1) (by intros; exact Nat.le_refl _)), (2, .pf (x.fst = x.fst) rfl), (1, .pf (x_3.m.ct = x_3.m.ct) rfl), (1, .le 1 1), (1, .pf (∀ (i : Nat), i < 1 → x.fst ≤ x.fst) (by intros; exact Nat.le_refl _)), (1, .pf (∀ (i e : Nat), i < 1 ∧ e < x.fst → x_3.m.g e = x_3.m.g e) (by intros; rfl)), (1, .pf (∃ (x_8 : Int), x_8 = (Mm.mk (fun (e : Nat) => x_3.m.g e) x_3.m.lk x_3.m.lc x_3.m.lo x_3.m.ln x_3.m.ct).val x.fst (Int.ofNat 7)) ⟨_, rfl⟩)]
    (V.any Int (fun (v : Int) => v = (Mm.mk (fun (e : Nat) => x_3.m.g e) x_3.m.lk x_3.m.lc x_3.m.lo x_3.m.ln x_3.m.ct).val x.fst (Int.ofNat 7)) fun (x : Int) => nN [(1, .pf (x = x) rfl), (1, .pf ((↑x_5 : Int) = (↑x_5 : Int)) rfl)]
    (V.need ((Int.ofNat 0 ≤ x ∧ x ≤ Int.ofNat 18446744073709551615) ∧ Int.ofNat 0 ≤ (↑x_5 : Int) ∧ (↑x_5 : Int) ≤ Int.ofNat 63)
    (nN [(1, .pf (∃ (x_8 : Bool), x_8 = bitB x (↑x_5 : Int)) ⟨_, rfl⟩)]
    (V.any Bool (fun (b : Bool) => b = bitB x (↑x_5 : Int)) fun (x : Bool) => V.br (!x)
    (V.bad 420)
    (V.need (nLb a - (↑(IntKind.i64.wrap ((↑x_5 : Int) + Int.ofNat 1)).toNat : Int)).NonNeg
    (V.need ((nLb a).toNat - (IntKind.i64.wrap ((↑x_5 : Int) + Int.ofNat 1)).toNat < (nLb a).toNat - x_5)
    (V.need (IntKind.i64.wrap ((↑x_5 : Int) + Int.ofNat 1) = (↑(IntKind.i64.wrap ((↑x_5 : Int) + Int.ofNat 1)).toNat : Int)) V.ok))))))))
    (V.need (nLb a - (↑(IntKind.i64.wrap ((↑x_5 : Int) + Int.ofNat 1)).toNat : Int)).NonNeg
    (V.need ((nLb a).toNat - (IntKind.i64.wrap ((↑x_5 : Int) + Int.ofNat 1)).toNat < (nLb a).toNat - x_5)
    (V.need (IntKind.i64.wrap ((↑x_5 : Int) + Int.ofNat 1) = (↑(IntKind.i64.wrap ((↑x_5 : Int) + Int.ofNat 1)).toNat : Int)) V.ok)))))))))
    (V.need ((IntKind.i64.wrap ((↑x_2.i : Int) + Int.ofNat 1)).toNat ≤ len ∧ Wf (yW (nLb a) (Int.ofNat 3)) x.fst (nLb a).toNat (Mm.mk (fun (e : Nat) => x_3.m.g e) x_3.m.lk x_3.m.lc x_3.m.lo x_3.m.ln x_3.m.ct) ∧ ∀ (v : Nat), v < (nLb a).toNat → x_3.m.g (Tq (yW (nLb a) (Int.ofNat 3)) v + Int.ofNat 1).toNat ≤ (↑(IntKind.i64.wrap ((↑x_2.i : Int) + Int.ofNat 1)).toNat : Int))
    (V.need (len - (IntKind.i64.wrap ((↑x_2.i : Int) + Int.ofNat 1)).toNat < len - x_2.i)
    (V.need (IntKind.i64.wrap ((↑x_2.i : Int) + Int.ofNat 1) = (↑(IntKind.i64.wrap ((↑x_2.i : Int) + Int.ofNat 1)).toNat : Int))
    (nN [(2, .pf (x.fst = x.fst) rfl), (1, .pf (x_3.m.lk = x_3.m.lk) rfl), (1, .pf (x_3.m.lc = x_3.m.lc) rfl), (1, .pf (x_3.m.lo = x_3.m.lo) rfl), (1, .pf (x_3.m.ln = x_3.m.ln) rfl), (1, .pf (x_3.m.ct = x_3.m.ct) rfl), (1, .pf (x.fst = x.fst) rfl), (1, .pf (x.fst ≤ x.fst) (Nat.le_refl _)), (1, .pf (∀ (e : Nat), e < x.fst → x_3.m.g e = x_3.m.g e) (by intros; rfl))] V.ok)))))))))))
    (V.need (nLb a - (↑0 : Int)).NonNeg
    (V.need (Int.ofNat 0 = (↑0 : Int))
    (V.any Nat (fun (v : Nat) => (↑v : Int) ≤ nLb a) fun (x_4 : Nat) => V.br (decide ((↑x_4 : Int) < IntKind.i64.wrap (Int.ofNat 1 + IntKind.i64.wrap (a.tmod (Int.ofNat 5)))))
    (nN [(11, .lt2 0 1 0 1)]
    (V.br false
    (nN [(5, .lt2 0 1 0 1), (1, .pf (Int.negSucc 0 = Int.negSucc 0) rfl), (1, .le 1 1), (1, .pf (∀ (i : Nat), i < 1 → 1 ≤ 1) (by intros; exact Nat.le_refl _)), (2, .pf (x.fst = x.fst) rfl), (1, .pf (x_3.m.ct = x_3.m.ct) rfl), (1, .le 1 1), (1, .pf (∀ (i : Nat), i < 1 → x.fst ≤ x.fst) (by intros; exact Nat.le_refl _)), (1, .pf (∀ (i e : Nat), i < 1 ∧ e < x.fst → x_3.m.g e = x_3.m.g e) (by intros; rfl)), (1, .pf (∃ (x_5 : Int), x_5 = (Mm.mk (fun (e : Nat) => x_3.m.g e) x_3.m.lk x_3.m.lc x_3.m.lo x_3.m.ln x_3.m.ct).val x.fst (Int.negSucc 0)) ⟨_, rfl⟩)]
    (V.any Int (fun (v : Int) => v = (Mm.mk (fun (e : Nat) => x_3.m.g e) x_3.m.lk x_3.m.lc x_3.m.lo x_3.m.ln x_3.m.ct).val x.fst (Int.negSucc 0)) fun (x_5 : Int) => nN [(5, .lt2 0 1 0 1), (1, .pf (Int.negSucc 0 = Int.negSucc 0) rfl), (1, .le 1 1), (1, .pf (∀ (i : Nat), i < 1 → 1 ≤ 1) (by intros; exact Nat.le_refl _)), (2, .pf (x.fst = x.fst) rfl), (1, .pf (x_3.m.ct = x_3.m.ct) rfl), (1, .le 1 1), (1, .pf (∀ (i : Nat), i < 1 → x.fst ≤ x.fst) (by intros; exact Nat.le_refl _)), (1, .pf (∀ (i e : Nat), i < 1 ∧ e < x.fst → x_3.m.g e = x_3.m.g e) (by intros; rfl)), (1, .pf (∃ (x_6 : Int), x_6 = (Mm.mk (fun (e : Nat) => x_3.m.g e) x_3.m.lk x_3.m.lc x_3.m.lo x_3.m.ln x_3.m.ct).val x.fst (Int.negSucc 0)) ⟨_, rfl⟩)]
    (V.any Int (fun (v : Int) => v = (Mm.mk (fun (e : Nat) => x_3.m.g e) x_3.m.lk x_3.m.lc x_3.m.lo x_3.m.ln x_3.m.ct).val x.fst (Int.negSucc 0)) fun (x_6 : Int) => V.br (decide (IntKind.i64.wrap (IntKind.u64.wrap (x_5 - x_6)) > Int.ofNat 0))
    (nN [(14, .lt2 0 1 0 1), (1, .eqI 7 7), (1, .le 1 1), (1, .pf (∀ (i : Nat), i < 1 → 1 ≤ 1) (by intros; exact Nat.le_refl _)), (2, .pf (x.fst = x.fst) rfl), (1, .pf (x_3.m.ct = x_3.m.ct) rfl), (1, .le 1 1), (1, .pf (∀ (i : Nat), i < 1 → x.fst ≤ x.fst) (by intros; exact Nat.le_refl _)), (1, .pf (∀ (i e : Nat), i < 1 ∧ e < x.fst → x_3.m.g e = x_3.m.g e) (by intros; rfl)), (1, .pf (∃ (x_7 : Int), x_7 = (Mm.mk (fun (e : Nat) => x_3.m.g e) x_3.m.lk x_3.m.lc x_3.m.lo x_3.m.ln x_3.m.ct).val x.fst (Int.ofNat 7)) ⟨_, rfl⟩)]
    (V.any Int (fun (v : Int) => v = (Mm.mk (fun (e : Nat) => x_3.m.g e) x_3.m.lk x_3.m.lc x_3.m.lo x_3.m.ln x_3.m.ct).val x.fst (Int.ofNat 7)) fun (x : Int) => nN [(1, .pf (x = x) rfl), (1, .pf ((↑x_4 : Int) = (↑x_4 : Int)) rfl)]
    (V.need ((Int.ofNat 0 ≤ x ∧ x ≤ Int.ofNat 18446744073709551615) ∧ Int.ofNat 0 ≤ (↑x_4 : Int) ∧ (↑x_4 : Int) ≤ Int.ofNat 63)
    (nN [(1, .pf (∃ (x_7 : Bool), x_7 = bitB x (↑x_4 : Int)) ⟨_, rfl⟩)]
    (V.any Bool (fun (b : Bool) => b = bitB x (↑x_4 : Int)) fun (x : Bool) => V.br (!x)
    (V.bad 420)
    (V.need (nLb a - (↑(IntKind.i64.wrap ((↑x_4 : Int) + Int.ofNat 1)).toNat : Int)).NonNeg
    (V.need ((nLb a).toNat - (IntKind.i64.wrap ((↑x_4 : Int) + Int.ofNat 1)).toNat < (nLb a).toNat - x_4)
    (V.need (IntKind.i64.wrap ((↑x_4 : Int) + Int.ofNat 1) = (↑(IntKind.i64.wrap ((↑x_4 : Int) + Int.ofNat 1)).toNat : Int)) V.ok))))))))
    (V.need (nLb a - (↑(IntKind.i64.wrap ((↑x_4 : Int) + Int.ofNat 1)).toNat : Int)).NonNeg
    (V.need ((nLb a).toNat - (IntKind.i64.wrap ((↑x_4 : Int) + Int.ofNat 1)).toNat < (nLb a).toNat - x_4)
    (V.need (IntKind.i64.wrap ((↑x_4 : Int) + Int.ofNat 1) = (↑(IntKind.i64.wrap ((↑x_4 : Int) + Int.ofNat 1)).toNat : Int)) V.ok))))))
    (V.br (decide ((↑x_4 : Int) ≥ IntKind.i64.wrap (Int.ofNat 1 + IntKind.i64.wrap (a.tmod (Int.ofNat 5)))))
    (nN [(5, .lt2 0 1 0 1), (1, .pf (Int.negSucc 0 = Int.negSucc 0) rfl), (1, .le 1 1), (1, .pf (∀ (i : Nat), i < 1 → 1 ≤ 1) (by intros; exact Nat.le_refl _)), (2, .pf (x.fst = x.fst) rfl), (1, .pf (x_3.m.ct = x_3.m.ct) rfl), (1, .le 1 1), (1, .pf (∀ (i : Nat), i < 1 → x.fst ≤ x.fst) (by intros; exact Nat.le_refl _)), (1, .pf (∀ (i e : Nat), i < 1 ∧ e < x.fst → x_3.m.g e = x_3.m.g e) (by intros; rfl)), (1, .pf (∃ (x_5 : Int), x_5 = (Mm.mk (fun (e : Nat) => x_3.m.g e) x_3.m.lk x_3.m.lc x_3.m.lo x_3.m.ln x_3.m.ct).val x.fst (Int.negSucc 0)) ⟨_, rfl⟩)]
    (V.any Int (fun (v : Int) => v = (Mm.mk (fun (e : Nat) => x_3.m.g e) x_3.m.lk x_3.m.lc x_3.m.lo x_3.m.ln x_3.m.ct).val x.fst (Int.negSucc 0)) fun (x_5 : Int) => nN [(5, .lt2 0 1 0 1), (1, .pf (Int.negSucc 0 = Int.negSucc 0) rfl), (1, .le 1 1), (1, .pf (∀ (i : Nat), i < 1 → 1 ≤ 1) (by intros; exact Nat.le_refl _)), (2, .pf (x.fst = x.fst) rfl), (1, .pf (x_3.m.ct = x_3.m.ct) rfl), (1, .le 1 1), (1, .pf (∀ (i : Nat), i < 1 → x.fst ≤ x.fst) (by intros; exact Nat.le_refl _)), (1, .pf (∀ (i e : Nat), i < 1 ∧ e < x.fst → x_3.m.g e = x_3.m.g e) (by intros; rfl)), (1, .pf (∃ (x_6 : Int), x_6 = (Mm.mk (fun (e : Nat) => x_3.m.g e) x_3.m.lk x_3.m.lc x_3.m.lo x_3.m.ln x_3.m.ct).val x.fst (Int.negSucc 0)) ⟨_, rfl⟩)]
    (V.any Int (fun (v : Int) => v = (Mm.mk (fun (e : Nat) => x_3.m.g e) x_3.m.lk x_3.m.lc x_3.m.lo x_3.m.ln x_3.m.ct).val x.fst (Int.negSucc 0)) fun (x_6 : Int) => V.br (decide (IntKind.i64.wrap (IntKind.u64.wrap (x_5 - x_6)) > Int.ofNat 0))
    (nN [(14, .lt2 0 1 0 1), (1, .eqI 7 7), (1, .le 1 1), (1, .pf (∀ (i : Nat), i < 1 → 1 ≤ 1) (by intros; exact Nat.le_refl _)), (2, .pf (x.fst = x.fst) rfl), (1, .pf (x_3.m.ct = x_3.m.ct) rfl), (1, .le 1 1), (1, .pf (∀ (i : Nat), i < 1 → x.fst ≤ x.fst) (by intros; exact Nat.le_refl _)), (1, .pf (∀ (i e : Nat), i < 1 ∧ e < x.fst → x_3.m.g e = x_3.m.g e) (by intros; rfl)), (1, .pf (∃ (x_7 : Int), x_7 = (Mm.mk (fun (e : Nat) => x_3.m.g e) x_3.m.lk x_3.m.lc x_3.m.lo x_3.m.ln x_3.m.ct).val x.fst (Int.ofNat 7)) ⟨_, rfl⟩)]
    (V.any Int (fun (v : Int) => v = (Mm.mk (fun (e : Nat) => x_3.m.g e) x_3.m.lk x_3.m.lc x_3.m.lo x_3.m.ln x_3.m.ct).val x.fst (Int.ofNat 7)) fun (x : Int) => nN [(1, .pf (x = x) rfl), (1, .pf ((↑x_4 : Int) = (↑x_4 : Int)) rfl)]
    (V.need ((Int.ofNat 0 ≤ x ∧ x ≤ Int.ofNat 18446744073709551615) ∧ Int.ofNat 0 ≤ (↑x_4 : Int) ∧ (↑x_4 : Int) ≤ Int.ofNat 63)
    (nN [(1, .pf (∃ (x_7 : Bool), x_7 = bitB x (↑x_4 : Int)) ⟨_, rfl⟩)]
    (V.any Bool (fun (b : Bool) => b = bitB x (↑x_4 : Int)) fun (x : Bool) => V.br (!x)
    (V.bad 420)
    (V.need (nLb a - (↑(IntKind.i64.wrap ((↑x_4 : Int) + Int.ofNat 1)).toNat : Int)).NonNeg
    (V.need ((nLb a).toNat - (IntKind.i64.wrap ((↑x_4 : Int) + Int.ofNat 1)).toNat < (nLb a).toNat - x_4)
    (V.need (IntKind.i64.wrap ((↑x_4 : Int) + Int.ofNat 1) = (↑(IntKind.i64.wrap ((↑x_4 : Int) + Int.ofNat 1)).toNat : Int)) V.ok))))))))
    (V.need (nLb a - (↑(IntKind.i64.wrap ((↑x_4 : Int) + Int.ofNat 1)).toNat : Int)).NonNeg
    (V.need ((nLb a).toNat - (IntKind.i64.wrap ((↑x_4 : Int) + Int.ofNat 1)).toNat < (nLb a).toNat - x_4)
    (V.need (IntKind.i64.wrap ((↑x_4 : Int) + Int.ofNat 1) = (↑(IntKind.i64.wrap ((↑x_4 : Int) + Int.ofNat 1)).toNat : Int)) V.ok))))))
    (nN [(20, .lt2 0 1 0 1), (1, .pf (IntKind.i64.wrap (IntKind.i64.wrap (Int.ofNat 8 + IntKind.i64.wrap (IntKind.i64.wrap (IntKind.i64.wrap (Int.ofNat 0 * IntKind.i64.wrap (Int.ofNat 1 + IntKind.i64.wrap (a.tmod (Int.ofNat 5)))) + (↑x_4 : Int)) * Int.ofNat 5)) + Int.ofNat 1) = IntKind.i64.wrap (IntKind.i64.wrap (Int.ofNat 8 + IntKind.i64.wrap (IntKind.i64.wrap (IntKind.i64.wrap (Int.ofNat 0 * IntKind.i64.wrap (Int.ofNat 1 + IntKind.i64.wrap (a.tmod (Int.ofNat 5)))) + (↑x_4 : Int)) * Int.ofNat 5)) + Int.ofNat 1)) rfl), (1, .le 1 1), (1, .pf (∀ (i : Nat), i < 1 → 1 ≤ 1) (by intros; exact Nat.le_refl _)), (2, .pf (x.fst = x.fst) rfl), (1, .pf (x_3.m.ct = x_3.m.ct) rfl), (1, .le 1 1), (1, .pf (∀ (i : Nat), i < 1 → x.fst ≤ x.fst) (by intros; exact Nat.le_refl _)), (1, .pf (∀ (i e : Nat), i < 1 ∧ e < x.fst → x_3.m.g e = x_3.m.g e) (by intros; rfl)), (1, .pf (∃ (x_5 : Int), x_5 = (Mm.mk (fun (e : Nat) => x_3.m.g e) x_3.m.lk x_3.m.lc x_3.m.lo x_3.m.ln x_3.m.ct).val x.fst (IntKind.i64.wrap (IntKind.i64.wrap (Int.ofNat 8 + IntKind.i64.wrap (IntKind.i64.wrap (IntKind.i64.wrap (Int.ofNat 0 * IntKind.i64.wrap (Int.ofNat 1 + IntKind.i64.wrap (a.tmod (Int.ofNat 5)))) + (↑x_4 : Int)) * Int.ofNat 5)) + Int.ofNat 1))) ⟨_, rfl⟩)]
    (V.any Int (fun (v : Int) => v = (Mm.mk (fun (e : Nat) => x_3.m.g e) x_3.m.lk x_3.m.lc x_3.m.lo x_3.m.ln x_3.m.ct).val x.fst (IntKind.i64.wrap (IntKind.i64.wrap (Int.ofNat 8 + IntKind.i64.wrap (IntKind.i64.wrap (IntKind.i64.wrap (Int.ofNat 0 * IntKind.i64.wrap (Int.ofNat 1 + IntKind.i64.wrap (a.tmod (Int.ofNat 5)))) + (↑x_4 : Int)) * Int.ofNat 5)) + Int.ofNat 1))) fun (x_5 : Int) => nN [(5, .lt2 0 1 0 1), (1, .pf (IntKind.i64.wrap (Int.ofNat 8 + IntKind.i64.wrap (IntKind.i64.wrap (IntKind.i64.wrap (Int.ofNat 0 * IntKind.i64.wrap (Int.ofNat 1 + IntKind.i64.wrap (a.tmod (Int.ofNat 5)))) + (↑x_4 : Int)) * Int.ofNat 5)) = IntKind.i64.wrap (Int.ofNat 8 + IntKind.i64.wrap (IntKind.i64.wrap (IntKind.i64.wrap (Int.ofNat 0 * IntKind.i64.wrap (Int.ofNat 1 + IntKind.i64.wrap (a.tmod (Int.ofNat 5)))) + (↑x_4 : Int)) * Int.ofNat 5))) rfl), (1, .le 1 1), (1, .pf (∀ (i : Nat), i < 1 → 1 ≤ 1) (by intros; exact Nat.le_refl _)), (2, .pf (x.fst = x.fst) rfl), (1, .pf (x_3.m.ct = x_3.m.ct) rfl), (1, .le 1 1), (1, .pf (∀ (i : Nat), i < 1 → x.fst ≤ x.fst) (by intros; exact Nat.le_refl _)), (1, .pf (∀ (i e : Nat), i < 1 ∧ e < x.fst → x_3.m.g e = x_3.m.g e) (by intros; rfl)), (1, .pf (∃ (x_6 : Int), x_6 = (Mm.mk (fun (e : Nat) => x_3.m.g e) x_3.m.lk x_3.m.lc x_3.m.lo x_3.m.ln x_3.m.ct).val x.fst (IntKind.i64.wrap (Int.ofNat 8 + IntKind.i64.wrap (IntKind.i64.wrap (IntKind.i64.wrap (Int.ofNat 0 * IntKind.i64.wrap (Int.ofNat 1 + IntKind.i64.wrap (a.tmod (Int.ofNat 5)))) + (↑x_4 : Int)) * Int.ofNat 5)))) ⟨_, rfl⟩)]
    (V.any Int (fun (v : Int) => v = (Mm.mk (fun (e : Nat) => x_3.m.g e) x_3.m.lk x_3.m.lc x_3.m.lo x_3.m.ln x_3.m.ct).val x.fst (IntKind.i64.wrap (Int.ofNat 8 + IntKind.i64.wrap (IntKind.i64.wrap (IntKind.i64.wrap (Int.ofNat 0 * IntKind.i64.wrap (Int.ofNat 1 + IntKind.i64.wrap (a.tmod (Int.ofNat 5)))) + (↑x_4 : Int)) * Int.ofNat 5)))) fun (x_6 : Int) => V.br (decide (IntKind.i64.wrap (IntKind.u64.wrap (x_5 - x_6)) > Int.ofNat 0))
    (nN [(14, .lt2 0 1 0 1), (1, .eqI 7 7), (1, .le 1 1), (1, .pf (∀ (i : Nat), i < 1 → 1 ≤ 1) (by intros; exact Nat.le_refl _)), (2, .pf (x.fst = x.fst) rfl), (1, .pf (x_3.m.ct = x_3.m.ct) rfl), (1, .le 1 1), (1, .pf (∀ (i : Nat), i < 1 → x.fst ≤ x.fst) (by intros; exact Nat.le_refl _)), (1, .pf (∀ (i e : Nat), i < 1 ∧ e < x.fst → x_3.m.g e = x_3.m.g e) (by intros; rfl)), (1, .pf (∃ (x_7 : Int), x_7 = (Mm.mk (fun (e : Nat) => x_3.m.g e) x_3.m.lk x_3.m.lc x_3.m.lo x_3.m.ln x_3.m.ct).val x.fst (Int.ofNat 7)) ⟨_, rfl⟩)]
    (V.any Int (fun (v : Int) => v = (Mm.mk (fun (e : Nat) => x_3.m.g e) x_3.m.lk x_3.m.lc x_3.m.lo x_3.m.ln x_3.m.ct).val x.fst (Int.ofNat 7)) fun (x : Int) => nN [(1, .pf (x = x) rfl), (1, .pf ((↑x_4 : Int) = (↑x_4 : Int)) rfl)]
    (V.need ((Int.ofNat 0 ≤ x ∧ x ≤ Int.ofNat 18446744073709551615) ∧ Int.ofNat 0 ≤ (↑x_4 : Int) ∧ (↑x_4 : Int) ≤ Int.ofNat 63)
    (nN [(1, .pf (∃ (x_7 : Bool), x_7 = bitB x (↑x_4 : Int)) ⟨_, rfl⟩)]
    (V.any Bool (fun (b : Bool) => b = bitB x (↑x_4 : Int)) fun (x : Bool) => V.br (!x)
    (V.bad 420)
    (V.need (nLb a - (↑(IntKind.i64.wrap ((↑x_4 : Int) + Int.ofNat 1)).toNat : Int)).NonNeg
    (V.need ((nLb a).toNat - (IntKind.i64.wrap ((↑x_4 : Int) + Int.ofNat 1)).toNat < (nLb a).toNat - x_4)
    (V.need (IntKind.i64.wrap ((↑x_4 : Int) + Int.ofNat 1) = (↑(IntKind.i64.wrap ((↑x_4 : Int) + Int.ofNat 1)).toNat : Int)) V.ok))))))))
    (V.need (nLb a - (↑(IntKind.i64.wrap ((↑x_4 : Int) + Int.ofNat 1)).toNat : Int)).NonNeg
    (V.need ((nLb a).toNat - (IntKind.i64.wrap ((↑x_4 : Int) + Int.ofNat 1)).toNat < (nLb a).toNat - x_4)
    (V.need (IntKind.i64.wrap ((↑x_4 : Int) + Int.ofNat 1) = (↑(IntKind.i64.wrap ((↑x_4 : Int) + Int.ofNat 1)).toNat : Int)) V.ok)))))))))
    (V.need ((IntKind.i64.wrap ((↑x_2.i : Int) + Int.ofNat 1)).toNat ≤ len ∧ Wf (yW (nLb a) (Int.ofNat 3)) x.fst (nLb a).toNat (Mm.mk (fun (e : Nat) => x_3.m.g e) x_3.m.lk x_3.m.lc x_3.m.lo x_3.m.ln x_3.m.ct) ∧ ∀ (v : Nat), v < (nLb a).toNat → x_3.m.g (Tq (yW (nLb a) (Int.ofNat 3)) v + Int.ofNat 1).toNat ≤ (↑(IntKind.i64.wrap ((↑x_2.i : Int) + Int.ofNat 1)).toNat : Int))
    (V.need (len - (IntKind.i64.wrap ((↑x_2.i : Int) + Int.ofNat 1)).toNat < len - x_2.i)
    (V.need (IntKind.i64.wrap ((↑x_2.i : Int) + Int.ofNat 1) = (↑(IntKind.i64.wrap ((↑x_2.i : Int) + Int.ofNat 1)).toNat : Int))
    (nN [(2, .pf (x.fst = x.fst) rfl), (1, .pf (x_3.m.lk = x_3.m.lk) rfl), (1, .pf (x_3.m.lc = x_3.m.lc) rfl), (1, .pf (x_3.m.lo = x_3.m.lo) rfl), (1, .pf (x_3.m.ln = x_3.m.ln) rfl), (1, .pf (x_3.m.ct = x_3.m.ct) rfl), (1, .pf (x.fst = x.fst) rfl), (1, .pf (x.fst ≤ x.fst) (Nat.le_refl _)), (1, .pf (∀ (e : Nat), e < x.fst → x_3.m.g e = x_3.m.g e) (by intros; rfl))] V.ok)))))))))))))))) V.ok)))))))))))))))))) := by kernel_rfl


end Go.Proofs.Ytomaagmleafjeaa.Md

/- LevelsBits: the conditions hold; the walk. -/
set_option linter.unusedVariables false
set_option linter.unusedSimpArgs false
set_option maxRecDepth 100000
namespace Go.Proofs.Ytomaagmleafjeaa.Md
open Go Go.RowKit Sx Cn Dc Ck Vc
theorem nLb_e {a : Int} : IntKind.i64.wrap (Int.ofNat 1 + IntKind.i64.wrap (a.tmod (Int.ofNat 5))) = nLb a := rfl
theorem nLb_bd {a : Int} (h : 0 ≤ a) : 1 ≤ nLb a ∧ nLb a ≤ 5 := by
  unfold nLb
  rw [Int.tmod_eq_emod_of_nonneg h, w64 (n := a % 5) (by omega), w64 (by omega)]
  omega
/-- The layout in hand. -/
def yL (N t : Int) : Ly := ⟨1, N, 1, 1, 3, 1, 5, 6, 7, 8, t⟩
theorem yL_e {N t : Int} : Ly.mk (Int.ofNat 1) N (Int.ofNat 1) (Int.ofNat 1) (Int.ofNat 3) (Int.ofNat 1) (Int.ofNat 5) (Int.ofNat 6) (Int.ofNat 7) (Int.ofNat 8) t = yL N t := rfl
theorem Wf.tb {N : Int} {n L : Nat} {m : Mm} {t : Int} (h : Wf (yW N 3) n L m) : Wf (yL N t) n L m := ⟨h.ok, h.t, h.B, h.bit⟩
theorem Wf.bt {N : Int} {n L : Nat} {m : Mm} {t : Int} (h : Wf (yL N t) n L m) : Wf (yW N 3) n L m := ⟨h.ok, h.t, h.B, h.bit⟩
theorem yL_qp {N t : Int} {n : Nat} (h : 1 ≤ N ∧ N ≤ 5) (hn : 8 + N.toNat * 5 ≤ n) : Qp (yL N t) n N.toNat :=
  ⟨rfl, by show N = (N.toNat : Int); omega, by omega, by show (1 : Int) ≤ 3 ∧ (3 : Int) ≤ 64; omega, by show (0 : Int) ≤ 7 ∧ (7 : Int) < 8; omega, by show (8 : Int) ≤ 1000; omega, by show (8 : Int) + (N.toNat : Int) * (2 + 3) ≤ n; omega⟩
theorem wf_0 {N : Int} {n L : Nat} : Wf (yW N 3) n L (Mm.mk (fun (e : Nat) => Int.ofNat 0) (Int.ofNat 0) (Int.ofNat 0) (Int.ofNat 0) (Int.ofNat 0) (Int.ofNat 0)) :=
  ⟨fun e => by show (0 : Int) ≤ 0 ∧ (0 : Int) ≤ 18446744073709551615; omega, fun v hv => ⟨Int.le_refl _, Int.le_refl _, by show (0 : Int) ≤ 0 + 3; omega, by show (0 : Int) ≤ 1000000; omega⟩, ⟨Int.le_refl _, Int.pow_pos (by omega)⟩, fun v hv h => absurd h (Int.lt_irrefl _)⟩
theorem nn {p q : Int} (h : q ≤ p) : (p - q).NonNeg := h
section
variable {N t : Int} {v : Nat}
theorem wv {I1 : Decidable ((v : Int) < N)} (h : decide ((v : Int) < N) = true) (hN : 1 ≤ N ∧ N ≤ 5) : IntKind.i64.wrap ((v : Int) + Int.ofNat 1) = ((v + 1 : Nat) : Int) := wnat (by have := of_decide_eq_true h; omega)
theorem lf1 {I1 : Decidable ((v : Int) < N)} (h : decide ((v : Int) < N) = true) (hN : 1 ≤ N ∧ N ≤ 5) : (N - ↑(IntKind.i64.wrap ((v : Int) + Int.ofNat 1)).toNat).NonNeg := by
  rw [wv h hN]
  have := of_decide_eq_true h
  exact nn (by omega)
theorem lf2 {I1 : Decidable ((v : Int) < N)} (h : decide ((v : Int) < N) = true) (hN : 1 ≤ N ∧ N ≤ 5) : N.toNat - (IntKind.i64.wrap ((v : Int) + Int.ofNat 1)).toNat < N.toNat - v := by
  rw [wv h hN]
  have := of_decide_eq_true h
  omega
theorem lf3 {I1 : Decidable ((v : Int) < N)} (h : decide ((v : Int) < N) = true) (hN : 1 ≤ N ∧ N ≤ 5) : IntKind.i64.wrap ((v : Int) + Int.ofNat 1) = ↑(IntKind.i64.wrap ((v : Int) + Int.ofNat 1)).toNat := by
  rw [wv h hN]
  omega
theorem dead {I1 : Decidable ((v : Int) < N)} (h : decide ((v : Int) < N) = true) {I2 : Decidable ((v : Int) ≥ N)} (h2 : decide ((v : Int) ≥ N) = true) : False := by
  have := of_decide_eq_true h
  have := of_decide_eq_true h2
  omega
theorem preBit {n L : Nat} {m : Mm} {y : Ly} {x : Int} (hw : Wf y n L m) (hn : 8 ≤ n) (hx : x = m.val n (Int.ofNat 7)) {I1 : Decidable ((v : Int) < N)} (h : decide ((v : Int) < N) = true) (hN : 1 ≤ N ∧ N ≤ 5) : (Int.ofNat 0 ≤ x ∧ x ≤ Int.ofNat 18446744073709551615) ∧ Int.ofNat 0 ≤ (v : Int) ∧ (v : Int) ≤ Int.ofNat 63 := by
  have := of_decide_eq_true h
  have e : m.val n (Int.ofNat 7) = m.g 7 := Mm.val_eq (by show (0 : Int) ≤ 7; omega) (by show (7 : Int) < n; omega)
  rw [e] at hx
  subst hx
  have := hw.ok 7
  simp only [Int.ofNat_eq_natCast]
  omega
theorem z_bad {n L : Nat} {m : Mm} {x : Int} (hn : 8 ≤ n) (hx : x = m.val n (Int.ofNat 7)) (h0 : m.g 7 = 0) (h : (x != Int.ofNat 0) = true) : False := by
  have e : m.val n (Int.ofNat 7) = m.g 7 := Mm.val_eq (by show (0 : Int) ≤ 7; omega) (by show (7 : Int) < n; omega)
  rw [e, h0] at hx
  subst hx
  exact absurd h (by decide)
theorem in_bad {n : Nat} {m : Mm} {p q x : Int} {b : Bool} (hw : Wf (yL N t) n N.toNat m) (hn : 8 + N.toNat * 5 ≤ n) (hN : 1 ≤ N ∧ N ≤ 5) {I1 : Decidable ((v : Int) < N)} (hv : decide ((v : Int) < N) = true)
    (hp : p = m.val n (IntKind.i64.wrap (IntKind.i64.wrap (Int.ofNat 8 + IntKind.i64.wrap (IntKind.i64.wrap (IntKind.i64.wrap (Int.ofNat 0 * N) + (v : Int)) * Int.ofNat 5)) + Int.ofNat 1)))
    (hq : q = m.val n (IntKind.i64.wrap (Int.ofNat 8 + IntKind.i64.wrap (IntKind.i64.wrap (IntKind.i64.wrap (Int.ofNat 0 * N) + (v : Int)) * Int.ofNat 5))))
    (hc : decide (IntKind.i64.wrap (IntKind.u64.wrap (p - q)) > Int.ofNat 0) = true) (hx : x = m.val n (Int.ofNat 7)) (hb : b = bitB x (v : Int)) (hz : (!b) = true) : False := by
  have hv := of_decide_eq_true hv
  have e : m.val n (Int.ofNat 7) = m.g 7 := Mm.val_eq (by show (0 : Int) ≤ 7; omega) (by show (7 : Int) < n; omega)
  have eT : Tq (yL N t) v = 8 + (v : Int) * 5 := rfl
  have i1 : IntKind.i64.wrap (Int.ofNat 8 + IntKind.i64.wrap (IntKind.i64.wrap (IntKind.i64.wrap (Int.ofNat 0 * N) + (v : Int)) * Int.ofNat 5)) = Tq (yL N t) v := by
    rw [show Int.ofNat 0 * N = 0 from Int.zero_mul _, w64 (n := 0) (by omega), Int.zero_add, w64 (n := (v : Int)) (by omega), show (v : Int) * Int.ofNat 5 = (v : Int) * 5 from rfl, w64 (n := (v : Int) * 5) (by omega), show Int.ofNat 8 + (v : Int) * 5 = 8 + (v : Int) * 5 from rfl, w64 (by omega), eT]
  have i2 : IntKind.i64.wrap (Tq (yL N t) v + Int.ofNat 1) = Tq (yL N t) v + 1 := by
    rw [show Tq (yL N t) v + Int.ofNat 1 = Tq (yL N t) v + 1 from rfl, w64 (by omega)]
  rw [i1, i2, Mm.val_eq (by omega) (by omega)] at hp
  rw [i1, Mm.val_eq (by omega) (by omega)] at hq
  rw [e] at hx
  have ht := hw.t v (by omega)
  have hs : sz p q = p - q := sz_eq (by have hD : (yL N t).D = 3 := rfl; rw [hD] at ht; omega)
  have hc : 0 < sz p q := of_decide_eq_true hc
  have hbit : bitN (m.g 7) v := hw.bit v (by omega) (by omega)
  rw [hb, hx, bitB_bitN hbit] at hz
  exact absurd hz (by decide)
end
set_option maxHeartbeats 8000000 in
theorem vhLb {a : Int} {g : Nat → Int} {len cap : Nat} (ha : 0 ≤ a ∧ a ≤ 255) : VHolds (verLb a g len cap) := by
  constructor
  rw [verLb_eq]
  refine V.brI (fun _ => V.okI) fun hlen => ?_
  have hl : len ≤ 80 := by simp at hlen; omega
  have hN := nLb_bd ha.1
  simp only [nLb_e, yL_e]
  (repeat' first | with_reducible exact V.okI | with_reducible refine V.anyCfg ?_ | with_reducible refine V.anyMm ?_ | with_reducible refine V.anyInt ?_ | with_reducible refine V.anyNat ?_ | with_reducible refine V.anyCl' ?_ | with_reducible refine nN_h rfl ?_ | with_reducible refine V.needI ?_ ?_ | with_reducible intro _)
  all_goals first
    | (first | rfl | exact True.intro | exact ⟨u8_0, by decide⟩ | exact ⟨(1, 0, fun _ => 0), Nat.le_refl _⟩ | exact ⟨Nat.le_refl _, by assumption⟩ | exact Nat.zero_le _ | exact ⟨Nat.zero_le _, Nat.zero_le _⟩ | exact ⟨(_, _), is_cl _, Nat.le_refl _⟩ | exact err9 (by unfold okN; simp only [Int.ofNat_eq_natCast]; omega) rfl rfl rfl | decide)
    | exact err9 (by unfold okN; dsimp only; omega) rfl rfl rfl
    | exact ⟨(_, _), is_cl _, Nat.le_refl _⟩
    | omega
    | skip
  refine V.anyI fun q hq => ?_
  have hn : 8 + (nLb a).toNat * 5 ≤ q.1 := by
    rw [hq]
    show _ ≤ (ncI _).toNat
    unfold ncI lT lQ
    dsimp only
    simp only [Int.ofNat_eq_natCast, Int.natCast_zero, Int.natCast_one]
    omega
  obtain ⟨n, t⟩ := q
  clear hq
  simp only at hn
  have hQ : Qp (yL (nLb a) t) n (nLb a).toNat := yL_qp hN hn
  (repeat' first | with_reducible exact V.okI | with_reducible refine V.anyCfg ?_ | with_reducible refine V.anyMm ?_ | with_reducible refine V.anyInt ?_ | with_reducible refine V.anyNat ?_ | with_reducible refine V.anyCl' ?_ | with_reducible refine nN_h rfl ?_ | with_reducible refine V.needI ?_ ?_ | with_reducible intro _)
  all_goals first
    | exact True.intro
    | omega
    | exact rfl
    | exact ⟨by omega, wf_0, fun v hv => by decide⟩
    | skip
  refine V.anyI fun x hx => ?_
  obtain ⟨o1, o2, o3⟩ := hx
  have h8 : 8 ≤ n := by omega
  refine V.brI (fun hi => ?_) fun hi => V.okI
  have hi : x.i < len := by have := of_decide_eq_true hi; omega
  have ei : IntKind.i64.wrap ((x.i : Int) + Int.ofNat 1) = ((x.i + 1 : Nat) : Int) := wnat (by omega)
  simp only [ei, Mm.eta, Int.toNat_natCast, Nat.zero_add]
  have w0 : Wf (yL (nLb a) t) n (nLb a).toNat x.m := o2.tb
  (repeat' first | with_reducible exact V.okI | with_reducible refine V.anyCfg ?_ | with_reducible refine V.anyMm ?_ | with_reducible refine V.anyInt ?_ | with_reducible refine V.anyNat ?_ | with_reducible refine V.anyCl' ?_ | with_reducible refine nN_h rfl ?_ | with_reducible refine V.needI ?_ ?_ | with_reducible intro _)
  all_goals try (first | omega | (simp only [Int.ofNat_eq_natCast, Int.natCast_zero, Int.natCast_one]; omega))
  refine V.brI (fun hg => ?_) fun hg => ?_
  · have hg : 0 < g x.i := of_decide_eq_true hg
    have hl0 : 0 ≤ (g x.i).tmod (nLb a) ∧ (g x.i).tmod (nLb a) < nLb a := by
      rw [Int.tmod_eq_emod_of_nonneg (by omega)]
      exact ⟨Int.emod_nonneg _ (by omega), Int.emod_lt_of_pos _ (by omega)⟩
    have hp := push_wf (M := 30) (v := ((g x.i).tmod (nLb a)).toNat) (val := x.i) hQ w0 (by omega) (by omega) (by omega) (by omega) o3
    rw [Int.toNat_of_nonneg hl0.1] at hp
    (repeat' first | with_reducible exact V.okI | with_reducible refine V.anyCfg ?_ | with_reducible refine V.anyMm ?_ | with_reducible refine V.anyInt ?_ | with_reducible refine V.anyNat ?_ | with_reducible refine V.anyCl' ?_ | with_reducible refine nN_h rfl ?_ | with_reducible refine V.needI ?_ ?_ | with_reducible intro _)
    all_goals first
      | exact ⟨⟨hQ.small, hQ.okAt⟩, by omega⟩
      | exact ⟨⟨hQ.small, hQ.okAt⟩, by omega, w0.ok⟩
      | exact rfl
      | omega
      | (simp only [Int.ofNat_eq_natCast, Int.natCast_zero, Int.natCast_one]; omega)
      | skip
    refine V.anyI fun R hR => ?_
    rw [← show R = puR (yL (nLb a) t) n 0 ((g x.i).tmod (nLb a)) (x.i : Int) 30 x.m from hR] at hp
    clear hR
    obtain ⟨p1, p2⟩ := hp
    (repeat' first | with_reducible exact V.okI | with_reducible refine V.brT ?_ | with_reducible refine V.brF ?_ | with_reducible refine V.brI ?_ ?_ | with_reducible refine V.anyI ?_ | with_reducible refine nN_h rfl ?_ | with_reducible refine V.needI ?_ ?_ | with_reducible intro _)
    all_goals first
      | with_reducible exact lf1 (by assumption) hN
      | with_reducible exact lf2 (by assumption) hN
      | with_reducible exact lf3 (by assumption) hN
      | with_reducible exact preBit (N := nLb a) p1 h8 (by assumption) (by assumption) hN
      | with_reducible exact (dead (N := nLb a) (by assumption) (by assumption)).elim
      | with_reducible exact (in_bad p1 hn hN (by assumption) (by assumption) (by assumption) (by assumption) (by assumption) (by assumption) (by assumption)).elim
      | exact ⟨by omega, p1.bt, p2⟩
      | exact nn (by omega)
      | exact True.intro
      | exact (rfl : Int.ofNat 0 = ((0 : Nat) : Int))
      | with_reducible exact rfl
      | omega
      | skip
  · have hp := pop_wf (M := 200) hQ w0 (by omega) o3
    (repeat' first | with_reducible exact V.okI | with_reducible refine V.anyCfg ?_ | with_reducible refine V.anyMm ?_ | with_reducible refine V.anyInt ?_ | with_reducible refine V.anyNat ?_ | with_reducible refine V.anyCl' ?_ | with_reducible refine nN_h rfl ?_ | with_reducible refine V.needI ?_ ?_ | with_reducible intro _)
    all_goals first
      | exact ⟨⟨hQ.small, hQ.okAt⟩, by omega⟩
      | exact ⟨⟨hQ.small, hQ.okAt⟩, by omega, w0.ok⟩
      | exact rfl
      | omega
      | (simp only [Int.ofNat_eq_natCast, Int.natCast_zero, Int.natCast_one]; omega)
      | skip
    refine V.anyI fun R hR => ?_
    rw [← show R = popR (yL (nLb a) t) n 0 200 x.m from hR] at hp
    clear hR
    obtain ⟨p1, p2', p3⟩ := hp
    have p2 : ∀ u, u < (nLb a).toNat → R.m.g (Tq (yL (nLb a) t) u + 1).toNat ≤ (x.i : Int) + 1 := fun u hu => by have := p2' u hu; omega
    clear p2'
    have p3' : (R.c == Int.ofNat 2) = true → R.m.g 7 = 0 := fun h => p3 (eq_of_beq h)
    (repeat' first | with_reducible exact V.okI | with_reducible refine V.brT ?_ | with_reducible refine V.brF ?_ | with_reducible refine V.brI ?_ ?_ | with_reducible refine V.anyI ?_ | with_reducible refine nN_h rfl ?_ | with_reducible refine V.needI ?_ ?_ | with_reducible intro _)
    all_goals first
      | with_reducible exact (z_bad (L := 0) h8 (by assumption) (p3' (by assumption)) (by assumption)).elim
      | with_reducible exact lf1 (by assumption) hN
      | with_reducible exact lf2 (by assumption) hN
      | with_reducible exact lf3 (by assumption) hN
      | with_reducible exact preBit (N := nLb a) p1 h8 (by assumption) (by assumption) hN
      | with_reducible exact (dead (N := nLb a) (by assumption) (by assumption)).elim
      | with_reducible exact (in_bad p1 hn hN (by assumption) (by assumption) (by assumption) (by assumption) (by assumption) (by assumption) (by assumption)).elim
      | exact ⟨by omega, p1.bt, p2⟩
      | exact nn (by omega)
      | exact True.intro
      | exact (rfl : Int.ofNat 0 = ((0 : Nat) : Int))
      | with_reducible exact rfl
      | omega
      | skip
theorem conLb_ok : ConOK P conLb := .add aw13_ok (.add cAl_ok (.add cRBit_ok (conN_ok conWN_ok)))
theorem walkLb (a : Int) (ad : Option Addr) (len cap : Nat) (g : Nat → Int) (W : World) (ha : (Lit.int .u8 a).wf = true) (h : IsInts .i64 W ad len cap g) :
    Calls P 6 #[.int .u8 a, .slice ad len cap] W fun e w' => e = .returned (.bool true) ∧ Below W.heap.size W w' := by
  refine calls_yesV (vs := [.int .u8 a, .slice ad len cap]) conLb_ok (ρ := fun k i => if k = 0 ∧ i = 0 then addr0 ad else none) (vhLb (g := g) (u8i ha)) (views_inv fun k b hk => ?_) ⟨fun _ _ => rfl, h.val (by simp) ⟨Nat.le_of_ble_eq_true rfl, trivial⟩, trivial⟩
  rw [find_cons] at hk
  split at hk
  · rename_i e; subst e
    cases hk
    exact ⟨rfl, by decide, h.sat (by simp)⟩
  · cases hk
end Go.Proofs.Ytomaagmleafjeaa.Md
