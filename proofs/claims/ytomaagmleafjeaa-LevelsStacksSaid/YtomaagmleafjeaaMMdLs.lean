/- LevelsStacks: the conditions, printed by program. -/
import Derived.Test.YtomaagmleafjeaaMMdLsD
import Derived.Test.YtomaagmleafjeaaMW
import Derived.Test.YtomaagmleafjeaaMMdLb
set_option linter.unusedVariables false
set_option linter.unusedSimpArgs false
set_option linter.unusedVariables false
set_option maxRecDepth 100000
namespace Go.Proofs.Ytomaagmleafjeaa.Md
open Go Go.RowKit Sx Cn Dc Ck Vc

set_option maxHeartbeats 8000000 in
theorem verLs_eq (a b : Int) (g : Nat → Int) (len cap : Nat) : verLs a b g len cap =
  V.br (decide ((↑len : Int) > Int.ofNat 80)) V.ok
    (nN [(1, .neI 5 0), (1, .neI 4 0)]
    (V.need ((U8 0 fun (x : Nat) => Int.ofNat 0) ∧ 0 ≤ 9)
    (V.need (∃ (x : Nat × Nat × (Nat → Nat)), 1 ≤ x.fst)
    (V.any (Nat × Nat × (Nat → Nat)) (fun (x : Nat × Nat × (Nat → Nat)) => 1 ≤ x.fst) fun (x : Nat × Nat × (Nat → Nat)) => nN [(1, .eqI 1 1), (1, .pf (IntKind.i64.wrap (Int.ofNat 1 + IntKind.i64.wrap (a.tmod (Int.ofNat 5))) = IntKind.i64.wrap (Int.ofNat 1 + IntKind.i64.wrap (a.tmod (Int.ofNat 5)))) rfl), (2, .eqI 1 1), (1, .pf (IntKind.i64.wrap (Int.ofNat 1 + IntKind.i64.wrap (b.tmod (Int.ofNat 4))) = IntKind.i64.wrap (Int.ofNat 1 + IntKind.i64.wrap (b.tmod (Int.ofNat 4)))) rfl), (2, .eqI 1 1), (1, .eqI 0 0), (1, .eqI 1 1), (1, .eq 1 1), (1, .pf (x.fst = x.fst) rfl), (1, .eq 0 0), (1, .pf (x.snd.fst = x.snd.fst) rfl), (1, .le 1 1)]
    (V.need (1 ≤ 1 ∧ 1 ≤ x.fst)
    (nN [(1, .pf (∀ (i e : Nat), i = 0 ∧ e < 1 → e = e) (by intros; rfl)), (1, .pf (∀ (i e : Nat), i = 0 ∧ e < 1 → 0 = 0) (by intros; rfl)), (1, .pf (∀ (i e : Nat), i = 0 ∧ e < 1 → x.snd.snd e = x.snd.snd e) (by intros; rfl)), (1, .le 1 1)]
    (V.need (0 ≤ 0 ∧ 0 ≤ x.snd.fst)
    (nN [(1, .pf (∀ (i e : Nat), i = 0 ∧ e < 0 → uP (fun (x : Nat) => Int.ofNat 0) 0 e = uP (fun (x : Nat) => Int.ofNat 0) 0 e) (by intros; rfl)), (1, .pf (∀ (i e : Nat), i = 0 ∧ e < 0 → uL (fun (x : Nat) => Int.ofNat 0) 0 e = uL (fun (x : Nat) => Int.ofNat 0) 0 e) (by intros; rfl)), (1, .pf (∀ (i e : Nat), i = 0 ∧ e < 0 → uD (fun (x : Nat) => Int.ofNat 0) 0 e = uD (fun (x : Nat) => Int.ofNat 0) 0 e) (by intros; rfl))]
    (V.need (∀ (i : Nat), i < 1 → 0 ≤ gd 1 (fun (x : Nat) => 0) i ∧ 0 ≤ gd 1 (fun (e : Nat) => x.snd.snd e) i)
    (nN [(1, .pf (∀ (i e : Nat), i < 1 ∧ e < 0 → cO (fun (x : Nat) => Int.ofNat 0) 0 i e = cO (fun (x : Nat) => Int.ofNat 0) 0 i e) (by intros; rfl)), (1, .pf (∀ (i e : Nat), i < 1 ∧ e < 0 → cA (fun (x : Nat) => Int.ofNat 0) 0 i e = cA (fun (x : Nat) => Int.ofNat 0) 0 i e) (by intros; rfl)), (1, .pf (∀ (i e : Nat), i < 1 ∧ e < 0 → cB (fun (x : Nat) => Int.ofNat 0) 0 i e = cB (fun (x : Nat) => Int.ofNat 0) 0 i e) (by intros; rfl))]
    (V.need (errE (Cf.mk (Int.ofNat 1) (IntKind.i64.wrap (Int.ofNat 1 + IntKind.i64.wrap (a.tmod (Int.ofNat 5)))) (Int.ofNat 1) (Int.ofNat 1) (IntKind.i64.wrap (Int.ofNat 1 + IntKind.i64.wrap (b.tmod (Int.ofNat 4)))) (Int.ofNat 1) (Int.ofNat 1) (Int.ofNat 0) (Int.ofNat 1) 1 x.fst 0 x.snd.fst (fun (e : Nat) => 0) (fun (e : Nat) => x.snd.snd e) (fun (i e : Nat) => cO (fun (x : Nat) => Int.ofNat 0) 0 i e) (fun (i e : Nat) => cA (fun (x : Nat) => Int.ofNat 0) 0 i e) (fun (i e : Nat) => cB (fun (x : Nat) => Int.ofNat 0) 0 i e) (fun (e : Nat) => uP (fun (x : Nat) => Int.ofNat 0) 0 e) (fun (e : Nat) => uL (fun (x : Nat) => Int.ofNat 0) 0 e) fun (e : Nat) => uD (fun (x : Nat) => Int.ofNat 0) 0 e) = Int.ofNat 0)
    (V.need (∃ (x_1 : Cf × Nat), IsCl (Cf.mk (Int.ofNat 1) (IntKind.i64.wrap (Int.ofNat 1 + IntKind.i64.wrap (a.tmod (Int.ofNat 5)))) (Int.ofNat 1) (Int.ofNat 1) (IntKind.i64.wrap (Int.ofNat 1 + IntKind.i64.wrap (b.tmod (Int.ofNat 4)))) (Int.ofNat 1) (Int.ofNat 1) (Int.ofNat 0) (Int.ofNat 1) 1 x.fst 0 x.snd.fst (fun (e : Nat) => 0) (fun (e : Nat) => x.snd.snd e) (fun (i e : Nat) => cO (fun (x : Nat) => Int.ofNat 0) 0 i e) (fun (i e : Nat) => cA (fun (x : Nat) => Int.ofNat 0) 0 i e) (fun (i e : Nat) => cB (fun (x : Nat) => Int.ofNat 0) 0 i e) (fun (e : Nat) => uP (fun (x : Nat) => Int.ofNat 0) 0 e) (fun (e : Nat) => uL (fun (x : Nat) => Int.ofNat 0) 0 e) fun (e : Nat) => uD (fun (x : Nat) => Int.ofNat 0) 0 e) x_1.fst ∧ (Int.ofNat 1).toNat ≤ x_1.snd)
    (V.any (Cf × Nat) (fun (x_1 : Cf × Nat) => IsCl (Cf.mk (Int.ofNat 1) (IntKind.i64.wrap (Int.ofNat 1 + IntKind.i64.wrap (a.tmod (Int.ofNat 5)))) (Int.ofNat 1) (Int.ofNat 1) (IntKind.i64.wrap (Int.ofNat 1 + IntKind.i64.wrap (b.tmod (Int.ofNat 4)))) (Int.ofNat 1) (Int.ofNat 1) (Int.ofNat 0) (Int.ofNat 1) 1 x.fst 0 x.snd.fst (fun (e : Nat) => 0) (fun (e : Nat) => x.snd.snd e) (fun (i e : Nat) => cO (fun (x : Nat) => Int.ofNat 0) 0 i e) (fun (i e : Nat) => cA (fun (x : Nat) => Int.ofNat 0) 0 i e) (fun (i e : Nat) => cB (fun (x : Nat) => Int.ofNat 0) 0 i e) (fun (e : Nat) => uP (fun (x : Nat) => Int.ofNat 0) 0 e) (fun (e : Nat) => uL (fun (x : Nat) => Int.ofNat 0) 0 e) fun (e : Nat) => uD (fun (x : Nat) => Int.ofNat 0) 0 e) x_1.fst ∧ (Int.ofNat 1).toNat ≤ x_1.snd) fun (x_1 : Cf × Nat) => nN [(1, .pf (∃ (x_2 : Nat × Int), x_2 = (ncN (Cf.mk (Int.ofNat 1) (IntKind.i64.wrap (Int.ofNat 1 + IntKind.i64.wrap (a.tmod (Int.ofNat 5)))) (Int.ofNat 1) (Int.ofNat 1) (IntKind.i64.wrap (Int.ofNat 1 + IntKind.i64.wrap (b.tmod (Int.ofNat 4)))) (Int.ofNat 1) (Int.ofNat 1) (Int.ofNat 0) (Int.ofNat 1) 1 x.fst 0 x.snd.fst (fun (e : Nat) => 0) (fun (e : Nat) => x.snd.snd e) (fun (i e : Nat) => cO (fun (x : Nat) => Int.ofNat 0) 0 i e) (fun (i e : Nat) => cA (fun (x : Nat) => Int.ofNat 0) 0 i e) (fun (i e : Nat) => cB (fun (x : Nat) => Int.ofNat 0) 0 i e) (fun (e : Nat) => uP (fun (x : Nat) => Int.ofNat 0) 0 e) (fun (e : Nat) => uL (fun (x : Nat) => Int.ofNat 0) 0 e) fun (e : Nat) => uD (fun (x : Nat) => Int.ofNat 0) 0 e), lT (Cf.mk (Int.ofNat 1) (IntKind.i64.wrap (Int.ofNat 1 + IntKind.i64.wrap (a.tmod (Int.ofNat 5)))) (Int.ofNat 1) (Int.ofNat 1) (IntKind.i64.wrap (Int.ofNat 1 + IntKind.i64.wrap (b.tmod (Int.ofNat 4)))) (Int.ofNat 1) (Int.ofNat 1) (Int.ofNat 0) (Int.ofNat 1) 1 x.fst 0 x.snd.fst (fun (e : Nat) => 0) (fun (e : Nat) => x.snd.snd e) (fun (i e : Nat) => cO (fun (x : Nat) => Int.ofNat 0) 0 i e) (fun (i e : Nat) => cA (fun (x : Nat) => Int.ofNat 0) 0 i e) (fun (i e : Nat) => cB (fun (x : Nat) => Int.ofNat 0) 0 i e) (fun (e : Nat) => uP (fun (x : Nat) => Int.ofNat 0) 0 e) (fun (e : Nat) => uL (fun (x : Nat) => Int.ofNat 0) 0 e) fun (e : Nat) => uD (fun (x : Nat) => Int.ofNat 0) 0 e))) ⟨_, rfl⟩)]
    (V.any (Nat × Int) (fun (q : Nat × Int) => q = (ncN (Cf.mk (Int.ofNat 1) (IntKind.i64.wrap (Int.ofNat 1 + IntKind.i64.wrap (a.tmod (Int.ofNat 5)))) (Int.ofNat 1) (Int.ofNat 1) (IntKind.i64.wrap (Int.ofNat 1 + IntKind.i64.wrap (b.tmod (Int.ofNat 4)))) (Int.ofNat 1) (Int.ofNat 1) (Int.ofNat 0) (Int.ofNat 1) 1 x.fst 0 x.snd.fst (fun (e : Nat) => 0) (fun (e : Nat) => x.snd.snd e) (fun (i e : Nat) => cO (fun (x : Nat) => Int.ofNat 0) 0 i e) (fun (i e : Nat) => cA (fun (x : Nat) => Int.ofNat 0) 0 i e) (fun (i e : Nat) => cB (fun (x : Nat) => Int.ofNat 0) 0 i e) (fun (e : Nat) => uP (fun (x : Nat) => Int.ofNat 0) 0 e) (fun (e : Nat) => uL (fun (x : Nat) => Int.ofNat 0) 0 e) fun (e : Nat) => uD (fun (x : Nat) => Int.ofNat 0) 0 e), lT (Cf.mk (Int.ofNat 1) (IntKind.i64.wrap (Int.ofNat 1 + IntKind.i64.wrap (a.tmod (Int.ofNat 5)))) (Int.ofNat 1) (Int.ofNat 1) (IntKind.i64.wrap (Int.ofNat 1 + IntKind.i64.wrap (b.tmod (Int.ofNat 4)))) (Int.ofNat 1) (Int.ofNat 1) (Int.ofNat 0) (Int.ofNat 1) 1 x.fst 0 x.snd.fst (fun (e : Nat) => 0) (fun (e : Nat) => x.snd.snd e) (fun (i e : Nat) => cO (fun (x : Nat) => Int.ofNat 0) 0 i e) (fun (i e : Nat) => cA (fun (x : Nat) => Int.ofNat 0) 0 i e) (fun (i e : Nat) => cB (fun (x : Nat) => Int.ofNat 0) 0 i e) (fun (e : Nat) => uP (fun (x : Nat) => Int.ofNat 0) 0 e) (fun (e : Nat) => uL (fun (x : Nat) => Int.ofNat 0) 0 e) fun (e : Nat) => uD (fun (x : Nat) => Int.ofNat 0) 0 e))) fun (x : Nat × Int) => V.need True
    (V.need (Int.ofNat 0 ≤ IntKind.i64.wrap (Int.ofNat 1 + IntKind.i64.wrap (a.tmod (Int.ofNat 5))) ∧ IntKind.i64.wrap (Int.ofNat 1 + IntKind.i64.wrap (a.tmod (Int.ofNat 5))) ≤ IntKind.i64.wrap (Int.ofNat 1 + IntKind.i64.wrap (a.tmod (Int.ofNat 5))) ∧ (↑24 : Int) * IntKind.i64.wrap (Int.ofNat 1 + IntKind.i64.wrap (a.tmod (Int.ofNat 5))) ≤ Int.ofNat 281474976710656 ∧ IntKind.i64.wrap (Int.ofNat 1 + IntKind.i64.wrap (a.tmod (Int.ofNat 5))) ≤ Int.ofNat 9223372036854775807)
    (V.need (0 ≤ len ∧ (Ws (yW (nLb a) (kLs b)) x.fst (nLb a).toNat (Mm.mk (fun (e : Nat) => Int.ofNat 0) (Int.ofNat 0) (Int.ofNat 0) (Int.ofNat 0) (Int.ofNat 0) (Int.ofNat 0)) (fun (e : Nat) => 0) fun (x x_2 : Nat) => Int.ofNat 0) ∧ (∀ (v : Nat), v < (nLb a).toNat → Int.ofNat 0 ≤ (↑0 : Int)) ∧ ∀ (v : Nat), 0 ≤ 0)
    (V.need (Int.ofNat 0 = (↑0 : Int))
    (nN [(2, .pf (x.fst = x.fst) rfl), (5, .eqI 0 0), (1, .pf (x.fst = x.fst) rfl), (1, .pf (x.fst ≤ x.fst) (Nat.le_refl _)), (1, .pf (∀ (e : Nat), e < x.fst → Int.ofNat 0 = Int.ofNat 0) (by intros; rfl))]
    (V.need ((IntKind.i64.wrap (Int.ofNat 1 + IntKind.i64.wrap (a.tmod (Int.ofNat 5)))).toNat = (nLb a).toNat)
    (V.need ((nLb a).toNat ≤ (IntKind.i64.wrap (Int.ofNat 1 + IntKind.i64.wrap (a.tmod (Int.ofNat 5)))).toNat)
    (nN [(1, .pf (∀ (e : Nat), e < (nLb a).toNat → e = e) (by intros; rfl)), (2, .pf (∀ (e : Nat), e < (nLb a).toNat → 0 = 0) (by intros; rfl))]
    (V.need (∀ (i : Nat), 0 = 0 ∨ 0 = 0)
    (V.need (∀ (i : Nat), 0 ≤ 0 ∧ 0 ≤ 0)
    (nN [(1, .pf (∀ (i e : Nat), e < 0 → Int.ofNat 0 = Int.ofNat 0) (by intros; rfl))]
    (V.any XLs (okLs (nLb a) (kLs b) x.fst len) fun (x_2 : XLs) => V.br (decide ((↑x_2.i : Int) < (↑len : Int)))
    (V.need (Int.ofNat 0 ≤ (↑x_2.i : Int) ∧ (↑x_2.i : Int) < (↑len : Int))
    (V.need (0 < 1 ∧ 0 + (↑x_2.i : Int).toNat < len)
    (V.need (0 < 1 ∧ 0 + (↑x_2.i : Int).toNat < len)
    (V.br (decide (g (0 + (↑x_2.i : Int).toNat) > Int.ofNat 0))
    (V.need (Int.ofNat 0 ≤ (↑x_2.i : Int) ∧ (↑x_2.i : Int) < (↑len : Int))
    (V.need (0 < 1 ∧ 0 + (↑x_2.i : Int).toNat < len)
    (V.need (0 < 1 ∧ 0 + (↑x_2.i : Int).toNat < len)
    (V.need (IntKind.i64.wrap (Int.ofNat 1 + IntKind.i64.wrap (a.tmod (Int.ofNat 5))) ≠ Int.ofNat 0)
    (V.need (Int.ofNat 30 = (↑30 : Int))
    (nN [(1, .le 1 1), (1, .pf (∀ (i : Nat), i < 1 → 1 ≤ 1) (by intros; exact Nat.le_refl _)), (1, .eqI 1 1), (1, .pf (IntKind.i64.wrap (Int.ofNat 1 + IntKind.i64.wrap (a.tmod (Int.ofNat 5))) = IntKind.i64.wrap (Int.ofNat 1 + IntKind.i64.wrap (a.tmod (Int.ofNat 5)))) rfl), (2, .eqI 1 1), (1, .pf (IntKind.i64.wrap (Int.ofNat 1 + IntKind.i64.wrap (b.tmod (Int.ofNat 4))) = IntKind.i64.wrap (Int.ofNat 1 + IntKind.i64.wrap (b.tmod (Int.ofNat 4)))) rfl), (1, .eqI 1 1), (1, .eqI 5 5), (1, .eqI 6 6), (1, .eqI 7 7), (1, .eqI 8 8), (1, .pf (x.snd = x.snd) rfl), (2, .pf (x.fst = x.fst) rfl), (1, .pf (x_2.m.lk = x_2.m.lk) rfl), (1, .pf (x_2.m.lc = x_2.m.lc) rfl), (1, .pf (x_2.m.lo = x_2.m.lo) rfl), (1, .pf (x_2.m.ln = x_2.m.ln) rfl), (1, .pf (x_2.m.ct = x_2.m.ct) rfl), (1, .pf (x.fst = x.fst) rfl), (1, .pf (x.fst ≤ x.fst) (Nat.le_refl _)), (1, .pf (∀ (e : Nat), e < x.fst → x_2.m.g e = x_2.m.g e) (by intros; rfl)), (1, .eqI 0 0), (1, .pf ((g (0 + (↑x_2.i : Int).toNat)).tmod (IntKind.i64.wrap (Int.ofNat 1 + IntKind.i64.wrap (a.tmod (Int.ofNat 5)))) = (g (0 + (↑x_2.i : Int).toNat)).tmod (IntKind.i64.wrap (Int.ofNat 1 + IntKind.i64.wrap (a.tmod (Int.ofNat 5))))) rfl), (1, .pf ((↑x_2.i : Int) = (↑x_2.i : Int)) rfl)]
    (V.need (pPu (AP.mk (Ly.mk (Int.ofNat 1) (IntKind.i64.wrap (Int.ofNat 1 + IntKind.i64.wrap (a.tmod (Int.ofNat 5)))) (Int.ofNat 1) (Int.ofNat 1) (IntKind.i64.wrap (Int.ofNat 1 + IntKind.i64.wrap (b.tmod (Int.ofNat 4)))) (Int.ofNat 1) (Int.ofNat 5) (Int.ofNat 6) (Int.ofNat 7) (Int.ofNat 8) x.snd) 7 8 (NV.s x.fst) (NV.s x.fst) (Mm.mk (fun (e : Nat) => x_2.m.g e) x_2.m.lk x_2.m.lc x_2.m.lo x_2.m.ln x_2.m.ct)) (Int.ofNat 0) 30)
    (nN [(1, .pf (∃ (x_3 : Rs), x_3 = puR (Ly.mk (Int.ofNat 1) (IntKind.i64.wrap (Int.ofNat 1 + IntKind.i64.wrap (a.tmod (Int.ofNat 5)))) (Int.ofNat 1) (Int.ofNat 1) (IntKind.i64.wrap (Int.ofNat 1 + IntKind.i64.wrap (b.tmod (Int.ofNat 4)))) (Int.ofNat 1) (Int.ofNat 5) (Int.ofNat 6) (Int.ofNat 7) (Int.ofNat 8) x.snd) x.fst (Int.ofNat 0) ((g (0 + (↑x_2.i : Int).toNat)).tmod (IntKind.i64.wrap (Int.ofNat 1 + IntKind.i64.wrap (a.tmod (Int.ofNat 5))))) (↑x_2.i : Int) 30 (Mm.mk (fun (e : Nat) => x_2.m.g e) x_2.m.lk x_2.m.lc x_2.m.lo x_2.m.ln x_2.m.ct)) ⟨_, rfl⟩)]
    (V.any Rs (fun (r : Rs) => r = puR (Ly.mk (Int.ofNat 1) (IntKind.i64.wrap (Int.ofNat 1 + IntKind.i64.wrap (a.tmod (Int.ofNat 5)))) (Int.ofNat 1) (Int.ofNat 1) (IntKind.i64.wrap (Int.ofNat 1 + IntKind.i64.wrap (b.tmod (Int.ofNat 4)))) (Int.ofNat 1) (Int.ofNat 5) (Int.ofNat 6) (Int.ofNat 7) (Int.ofNat 8) x.snd) x.fst (Int.ofNat 0) ((g (0 + (↑x_2.i : Int).toNat)).tmod (IntKind.i64.wrap (Int.ofNat 1 + IntKind.i64.wrap (a.tmod (Int.ofNat 5))))) (↑x_2.i : Int) 30 (Mm.mk (fun (e : Nat) => x_2.m.g e) x_2.m.lk x_2.m.lc x_2.m.lo x_2.m.ln x_2.m.ct)) fun (x_3 : Rs) => V.need (Int.ofNat 0 ≤ (g (0 + (↑x_2.i : Int).toNat)).tmod (IntKind.i64.wrap (Int.ofNat 1 + IntKind.i64.wrap (a.tmod (Int.ofNat 5)))) ∧ (g (0 + (↑x_2.i : Int).toNat)).tmod (IntKind.i64.wrap (Int.ofNat 1 + IntKind.i64.wrap (a.tmod (Int.ofNat 5)))) < (↑(IntKind.i64.wrap (Int.ofNat 1 + IntKind.i64.wrap (a.tmod (Int.ofNat 5)))).toNat : Int))
    (V.need (0 + ((g (0 + (↑x_2.i : Int).toNat)).tmod (IntKind.i64.wrap (Int.ofNat 1 + IntKind.i64.wrap (a.tmod (Int.ofNat 5))))).toNat < (nLb a).toNat)
    (V.need (0 + ((g (0 + (↑x_2.i : Int).toNat)).tmod (IntKind.i64.wrap (Int.ofNat 1 + IntKind.i64.wrap (a.tmod (Int.ofNat 5))))).toNat < (nLb a).toNat)
    (V.br (!(x_3.c == Int.ofNat 3) == ((↑(x_2.ls (0 + ((g (0 + (↑x_2.i : Int).toNat)).tmod (IntKind.i64.wrap (Int.ofNat 1 + IntKind.i64.wrap (a.tmod (Int.ofNat 5))))).toNat)) : Int) == IntKind.i64.wrap (Int.ofNat 1 + IntKind.i64.wrap (b.tmod (Int.ofNat 4)))))
    (V.bad 420)
    (V.br (x_3.c != Int.ofNat 3)
    (V.br (x_3.c != Int.ofNat 0)
    (V.bad 420)
    (V.br (x_3.c == Int.ofNat 0)
    (V.need (Int.ofNat 0 ≤ (g (0 + (↑x_2.i : Int).toNat)).tmod (IntKind.i64.wrap (Int.ofNat 1 + IntKind.i64.wrap (a.tmod (Int.ofNat 5)))) ∧ (g (0 + (↑x_2.i : Int).toNat)).tmod (IntKind.i64.wrap (Int.ofNat 1 + IntKind.i64.wrap (a.tmod (Int.ofNat 5)))) < (↑(IntKind.i64.wrap (Int.ofNat 1 + IntKind.i64.wrap (a.tmod (Int.ofNat 5)))).toNat : Int))
    (V.need (0 + ((g (0 + (↑x_2.i : Int).toNat)).tmod (IntKind.i64.wrap (Int.ofNat 1 + IntKind.i64.wrap (a.tmod (Int.ofNat 5))))).toNat < (nLb a).toNat)
    (V.need (0 + ((g (0 + (↑x_2.i : Int).toNat)).tmod (IntKind.i64.wrap (Int.ofNat 1 + IntKind.i64.wrap (a.tmod (Int.ofNat 5))))).toNat < (nLb a).toNat)
    (nN [(1, .lt 0 1)]
    (V.need (x_2.ls (0 + ((g (0 + (↑x_2.i : Int).toNat)).tmod (IntKind.i64.wrap (Int.ofNat 1 + IntKind.i64.wrap (a.tmod (Int.ofNat 5))))).toNat) ≤ x_2.ls (0 + ((g (0 + (↑x_2.i : Int).toNat)).tmod (IntKind.i64.wrap (Int.ofNat 1 + IntKind.i64.wrap (a.tmod (Int.ofNat 5))))).toNat) ∧ x_2.cp (0 + ((g (0 + (↑x_2.i : Int).toNat)).tmod (IntKind.i64.wrap (Int.ofNat 1 + IntKind.i64.wrap (a.tmod (Int.ofNat 5))))).toNat) = x_2.cp (0 + ((g (0 + (↑x_2.i : Int).toNat)).tmod (IntKind.i64.wrap (Int.ofNat 1 + IntKind.i64.wrap (a.tmod (Int.ofNat 5))))).toNat))
    (V.need (x_2.ls (0 + ((g (0 + (↑x_2.i : Int).toNat)).tmod (IntKind.i64.wrap (Int.ofNat 1 + IntKind.i64.wrap (a.tmod (Int.ofNat 5))))).toNat) + 1 ≤ 9223372036854775807 ∧ (x_2.ls (0 + ((g (0 + (↑x_2.i : Int).toNat)).tmod (IntKind.i64.wrap (Int.ofNat 1 + IntKind.i64.wrap (a.tmod (Int.ofNat 5))))).toNat) + 1) * 8 ≤ 140737488355328)
    (V.any Nat (fun (x : Nat) => x_2.ls (0 + ((g (0 + (↑x_2.i : Int).toNat)).tmod (IntKind.i64.wrap (Int.ofNat 1 + IntKind.i64.wrap (a.tmod (Int.ofNat 5))))).toNat) + 1 ≤ x) fun (x_4 : Nat) => V.need (Int.ofNat 0 ≤ (g (0 + (↑x_2.i : Int).toNat)).tmod (IntKind.i64.wrap (Int.ofNat 1 + IntKind.i64.wrap (a.tmod (Int.ofNat 5)))) ∧ (g (0 + (↑x_2.i : Int).toNat)).tmod (IntKind.i64.wrap (Int.ofNat 1 + IntKind.i64.wrap (a.tmod (Int.ofNat 5)))) < (↑(IntKind.i64.wrap (Int.ofNat 1 + IntKind.i64.wrap (a.tmod (Int.ofNat 5)))).toNat : Int))
    (V.need (0 + ((g (0 + (↑x_2.i : Int).toNat)).tmod (IntKind.i64.wrap (Int.ofNat 1 + IntKind.i64.wrap (a.tmod (Int.ofNat 5))))).toNat < (nLb a).toNat)
    (V.need (0 + ((g (0 + (↑x_2.i : Int).toNat)).tmod (IntKind.i64.wrap (Int.ofNat 1 + IntKind.i64.wrap (a.tmod (Int.ofNat 5))))).toNat < (nLb a).toNat)
    (V.need (True ∧ ∀ (i e : Nat), i = 0 ∧ e < (nLb a).toNat → ¬(i = 0 ∧ e = 0 + ((g (0 + (↑x_2.i : Int).toNat)).tmod (IntKind.i64.wrap (Int.ofNat 1 + IntKind.i64.wrap (a.tmod (Int.ofNat 5))))).toNat) → e ≠ 0 + ((g (0 + (↑x_2.i : Int).toNat)).tmod (IntKind.i64.wrap (Int.ofNat 1 + IntKind.i64.wrap (a.tmod (Int.ofNat 5))))).toNat)
    (V.need ((IntKind.i64.wrap ((↑x_2.i : Int) + Int.ofNat 1)).toNat ≤ len ∧ (Ws (yW (nLb a) (kLs b)) x.fst (nLb a).toNat (Mm.mk (fun (e : Nat) => x_3.m.g e) x_3.m.lk x_3.m.lc x_3.m.lo x_3.m.ln x_3.m.ct) (fun (e : Nat) => if 0 = 0 ∧ e = 0 + ((g (0 + (↑x_2.i : Int).toNat)).tmod (IntKind.i64.wrap (Int.ofNat 1 + IntKind.i64.wrap (a.tmod (Int.ofNat 5))))).toNat then x_2.ls (0 + ((g (0 + (↑x_2.i : Int).toNat)).tmod (IntKind.i64.wrap (Int.ofNat 1 + IntKind.i64.wrap (a.tmod (Int.ofNat 5))))).toNat) + 1 else x_2.ls e) fun (i e : Nat) => if i = 0 + ((g (0 + (↑x_2.i : Int).toNat)).tmod (IntKind.i64.wrap (Int.ofNat 1 + IntKind.i64.wrap (a.tmod (Int.ofNat 5))))).toNat then if 0 = 0 ∧ e = x_2.ls (0 + ((g (0 + (↑x_2.i : Int).toNat)).tmod (IntKind.i64.wrap (Int.ofNat 1 + IntKind.i64.wrap (a.tmod (Int.ofNat 5))))).toNat) then (↑x_2.i : Int) else x_2.S (0 + ((g (0 + (↑x_2.i : Int).toNat)).tmod (IntKind.i64.wrap (Int.ofNat 1 + IntKind.i64.wrap (a.tmod (Int.ofNat 5))))).toNat) e else x_2.S i e) ∧ (∀ (v : Nat), v < (nLb a).toNat → x_3.m.g (Tq (yW (nLb a) (kLs b)) v + Int.ofNat 1).toNat ≤ (↑(IntKind.i64.wrap ((↑x_2.i : Int) + Int.ofNat 1)).toNat : Int)) ∧ ∀ (v : Nat), (if 0 = 0 ∧ v = 0 + ((g (0 + (↑x_2.i : Int).toNat)).tmod (IntKind.i64.wrap (Int.ofNat 1 + IntKind.i64.wrap (a.tmod (Int.ofNat 5))))).toNat then x_2.ls (0 + ((g (0 + (↑x_2.i : Int).toNat)).tmod (IntKind.i64.wrap (Int.ofNat 1 + IntKind.i64.wrap (a.tmod (Int.ofNat 5))))).toNat) + 1 else x_2.ls v) ≤ if v = 0 + ((g (0 + (↑x_2.i : Int).toNat)).tmod (IntKind.i64.wrap (Int.ofNat 1 + IntKind.i64.wrap (a.tmod (Int.ofNat 5))))).toNat then x_4 else if v = 0 + ((g (0 + (↑x_2.i : Int).toNat)).tmod (IntKind.i64.wrap (Int.ofNat 1 + IntKind.i64.wrap (a.tmod (Int.ofNat 5))))).toNat then 0 else x_2.cp v)
    (V.need (len - (IntKind.i64.wrap ((↑x_2.i : Int) + Int.ofNat 1)).toNat < len - x_2.i)
    (V.need (IntKind.i64.wrap ((↑x_2.i : Int) + Int.ofNat 1) = (↑(IntKind.i64.wrap ((↑x_2.i : Int) + Int.ofNat 1)).toNat : Int))
    (nN [(2, .pf (x.fst = x.fst) rfl), (1, .pf (x_3.m.lk = x_3.m.lk) rfl), (1, .pf (x_3.m.lc = x_3.m.lc) rfl), (1, .pf (x_3.m.lo = x_3.m.lo) rfl), (1, .pf (x_3.m.ln = x_3.m.ln) rfl), (1, .pf (x_3.m.ct = x_3.m.ct) rfl), (1, .pf (x.fst = x.fst) rfl), (1, .pf (x.fst ≤ x.fst) (Nat.le_refl _)), (1, .pf (∀ (e : Nat), e < x.fst → x_3.m.g e = x_3.m.g e) (by intros; rfl)), (1, .pf ((nLb a).toNat = (nLb a).toNat) rfl)]
    (V.need ((nLb a).toNat ≤ (nLb a).toNat)
    (nN [(1, .pf (∀ (e : Nat), e < (nLb a).toNat → e = e) (by intros; rfl))]
    (V.need (∀ (e : Nat), e < (nLb a).toNat → (if 0 = 0 ∧ e = 0 + ((g (0 + (↑x_2.i : Int).toNat)).tmod (IntKind.i64.wrap (Int.ofNat 1 + IntKind.i64.wrap (a.tmod (Int.ofNat 5))))).toNat then x_2.ls (0 + ((g (0 + (↑x_2.i : Int).toNat)).tmod (IntKind.i64.wrap (Int.ofNat 1 + IntKind.i64.wrap (a.tmod (Int.ofNat 5))))).toNat) + 1 else x_2.ls e) = if 0 = 0 ∧ e = 0 + ((g (0 + (↑x_2.i : Int).toNat)).tmod (IntKind.i64.wrap (Int.ofNat 1 + IntKind.i64.wrap (a.tmod (Int.ofNat 5))))).toNat then x_2.ls (0 + ((g (0 + (↑x_2.i : Int).toNat)).tmod (IntKind.i64.wrap (Int.ofNat 1 + IntKind.i64.wrap (a.tmod (Int.ofNat 5))))).toNat) + 1 else x_2.ls e)
    (V.need (∀ (e : Nat), e < (nLb a).toNat → (if 0 = 0 ∧ e = 0 + ((g (0 + (↑x_2.i : Int).toNat)).tmod (IntKind.i64.wrap (Int.ofNat 1 + IntKind.i64.wrap (a.tmod (Int.ofNat 5))))).toNat then x_4 else x_2.cp e) = if e = 0 + ((g (0 + (↑x_2.i : Int).toNat)).tmod (IntKind.i64.wrap (Int.ofNat 1 + IntKind.i64.wrap (a.tmod (Int.ofNat 5))))).toNat then x_4 else if e = 0 + ((g (0 + (↑x_2.i : Int).toNat)).tmod (IntKind.i64.wrap (Int.ofNat 1 + IntKind.i64.wrap (a.tmod (Int.ofNat 5))))).toNat then 0 else x_2.cp e)
    (V.need (∀ (i : Nat), ((if i = 0 + ((g (0 + (↑x_2.i : Int).toNat)).tmod (IntKind.i64.wrap (Int.ofNat 1 + IntKind.i64.wrap (a.tmod (Int.ofNat 5))))).toNat then x_4 else if i = 0 + ((g (0 + (↑x_2.i : Int).toNat)).tmod (IntKind.i64.wrap (Int.ofNat 1 + IntKind.i64.wrap (a.tmod (Int.ofNat 5))))).toNat then 0 else x_2.cp i) = if i = 0 + ((g (0 + (↑x_2.i : Int).toNat)).tmod (IntKind.i64.wrap (Int.ofNat 1 + IntKind.i64.wrap (a.tmod (Int.ofNat 5))))).toNat then x_4 else if i = 0 + ((g (0 + (↑x_2.i : Int).toNat)).tmod (IntKind.i64.wrap (Int.ofNat 1 + IntKind.i64.wrap (a.tmod (Int.ofNat 5))))).toNat then 0 else x_2.cp i) ∨ (if i = 0 + ((g (0 + (↑x_2.i : Int).toNat)).tmod (IntKind.i64.wrap (Int.ofNat 1 + IntKind.i64.wrap (a.tmod (Int.ofNat 5))))).toNat then x_4 else if i = 0 + ((g (0 + (↑x_2.i : Int).toNat)).tmod (IntKind.i64.wrap (Int.ofNat 1 + IntKind.i64.wrap (a.tmod (Int.ofNat 5))))).toNat then 0 else x_2.cp i) = 0)
    (V.need (∀ (i : Nat), ((if 0 = 0 ∧ i = 0 + ((g (0 + (↑x_2.i : Int).toNat)).tmod (IntKind.i64.wrap (Int.ofNat 1 + IntKind.i64.wrap (a.tmod (Int.ofNat 5))))).toNat then x_2.ls (0 + ((g (0 + (↑x_2.i : Int).toNat)).tmod (IntKind.i64.wrap (Int.ofNat 1 + IntKind.i64.wrap (a.tmod (Int.ofNat 5))))).toNat) + 1 else x_2.ls i) ≤ if i = 0 + ((g (0 + (↑x_2.i : Int).toNat)).tmod (IntKind.i64.wrap (Int.ofNat 1 + IntKind.i64.wrap (a.tmod (Int.ofNat 5))))).toNat then x_4 else if i = 0 + ((g (0 + (↑x_2.i : Int).toNat)).tmod (IntKind.i64.wrap (Int.ofNat 1 + IntKind.i64.wrap (a.tmod (Int.ofNat 5))))).toNat then 0 else x_2.cp i) ∧ (if 0 = 0 ∧ i = 0 + ((g (0 + (↑x_2.i : Int).toNat)).tmod (IntKind.i64.wrap (Int.ofNat 1 + IntKind.i64.wrap (a.tmod (Int.ofNat 5))))).toNat then x_2.ls (0 + ((g (0 + (↑x_2.i : Int).toNat)).tmod (IntKind.i64.wrap (Int.ofNat 1 + IntKind.i64.wrap (a.tmod (Int.ofNat 5))))).toNat) + 1 else x_2.ls i) ≤ if i = 0 + ((g (0 + (↑x_2.i : Int).toNat)).tmod (IntKind.i64.wrap (Int.ofNat 1 + IntKind.i64.wrap (a.tmod (Int.ofNat 5))))).toNat then x_2.ls (0 + ((g (0 + (↑x_2.i : Int).toNat)).tmod (IntKind.i64.wrap (Int.ofNat 1 + IntKind.i64.wrap (a.tmod (Int.ofNat 5))))).toNat) + 1 else if i = 0 + ((g (0 + (↑x_2.i : Int).toNat)).tmod (IntKind.i64.wrap (Int.ofNat 1 + IntKind.i64.wrap (a.tmod (Int.ofNat 5))))).toNat then 0 else x_2.ls i)
    (V.need (∀ (i e : Nat), (e < if 0 = 0 ∧ i = 0 + ((g (0 + (↑x_2.i : Int).toNat)).tmod (IntKind.i64.wrap (Int.ofNat 1 + IntKind.i64.wrap (a.tmod (Int.ofNat 5))))).toNat then x_2.ls (0 + ((g (0 + (↑x_2.i : Int).toNat)).tmod (IntKind.i64.wrap (Int.ofNat 1 + IntKind.i64.wrap (a.tmod (Int.ofNat 5))))).toNat) + 1 else x_2.ls i) → (if i = 0 + ((g (0 + (↑x_2.i : Int).toNat)).tmod (IntKind.i64.wrap (Int.ofNat 1 + IntKind.i64.wrap (a.tmod (Int.ofNat 5))))).toNat then if 0 = 0 ∧ e = x_2.ls (0 + ((g (0 + (↑x_2.i : Int).toNat)).tmod (IntKind.i64.wrap (Int.ofNat 1 + IntKind.i64.wrap (a.tmod (Int.ofNat 5))))).toNat) then (↑x_2.i : Int) else x_2.S (0 + ((g (0 + (↑x_2.i : Int).toNat)).tmod (IntKind.i64.wrap (Int.ofNat 1 + IntKind.i64.wrap (a.tmod (Int.ofNat 5))))).toNat) e else x_2.S i e) = if i = 0 + ((g (0 + (↑x_2.i : Int).toNat)).tmod (IntKind.i64.wrap (Int.ofNat 1 + IntKind.i64.wrap (a.tmod (Int.ofNat 5))))).toNat then if 0 = 0 ∧ e = x_2.ls (0 + ((g (0 + (↑x_2.i : Int).toNat)).tmod (IntKind.i64.wrap (Int.ofNat 1 + IntKind.i64.wrap (a.tmod (Int.ofNat 5))))).toNat) then (↑x_2.i : Int) else x_2.S (0 + ((g (0 + (↑x_2.i : Int).toNat)).tmod (IntKind.i64.wrap (Int.ofNat 1 + IntKind.i64.wrap (a.tmod (Int.ofNat 5))))).toNat) e else x_2.S i e) V.ok)))))))))))))))))))))
    (V.need ((IntKind.i64.wrap ((↑x_2.i : Int) + Int.ofNat 1)).toNat ≤ len ∧ Ws (yW (nLb a) (kLs b)) x.fst (nLb a).toNat (Mm.mk (fun (e : Nat) => x_3.m.g e) x_3.m.lk x_3.m.lc x_3.m.lo x_3.m.ln x_3.m.ct) (fun (e : Nat) => x_2.ls e) x_2.S ∧ (∀ (v : Nat), v < (nLb a).toNat → x_3.m.g (Tq (yW (nLb a) (kLs b)) v + Int.ofNat 1).toNat ≤ (↑(IntKind.i64.wrap ((↑x_2.i : Int) + Int.ofNat 1)).toNat : Int)) ∧ ∀ (v : Nat), x_2.ls v ≤ x_2.cp v)
    (V.need (len - (IntKind.i64.wrap ((↑x_2.i : Int) + Int.ofNat 1)).toNat < len - x_2.i)
    (V.need (IntKind.i64.wrap ((↑x_2.i : Int) + Int.ofNat 1) = (↑(IntKind.i64.wrap ((↑x_2.i : Int) + Int.ofNat 1)).toNat : Int))
    (nN [(2, .pf (x.fst = x.fst) rfl), (1, .pf (x_3.m.lk = x_3.m.lk) rfl), (1, .pf (x_3.m.lc = x_3.m.lc) rfl), (1, .pf (x_3.m.lo = x_3.m.lo) rfl), (1, .pf (x_3.m.ln = x_3.m.ln) rfl), (1, .pf (x_3.m.ct = x_3.m.ct) rfl), (1, .pf (x.fst = x.fst) rfl), (1, .pf (x.fst ≤ x.fst) (Nat.le_refl _)), (1, .pf (∀ (e : Nat), e < x.fst → x_3.m.g e = x_3.m.g e) (by intros; rfl)), (1, .pf ((nLb a).toNat = (nLb a).toNat) rfl)]
    (V.need ((nLb a).toNat ≤ (nLb a).toNat)
    (nN [(1, .pf (∀ (e : Nat), e < (nLb a).toNat → e = e) (by intros; rfl)), (1, .pf (∀ (e : Nat), e < (nLb a).toNat → x_2.ls e = x_2.ls e) (by intros; rfl)), (1, .pf (∀ (e : Nat), e < (nLb a).toNat → x_2.cp e = x_2.cp e) (by intros; rfl))]
    (V.need (∀ (i : Nat), x_2.cp i = x_2.cp i ∨ x_2.cp i = 0)
    (V.need (∀ (i : Nat), x_2.ls i ≤ x_2.cp i ∧ x_2.ls i ≤ x_2.ls i)
    (nN [(1, .pf (∀ (i e : Nat), e < x_2.ls i → x_2.S i e = x_2.S i e) (by intros; rfl))] V.ok)))))))))))
    (V.br (x_3.c == Int.ofNat 0)
    (V.need (Int.ofNat 0 ≤ (g (0 + (↑x_2.i : Int).toNat)).tmod (IntKind.i64.wrap (Int.ofNat 1 + IntKind.i64.wrap (a.tmod (Int.ofNat 5)))) ∧ (g (0 + (↑x_2.i : Int).toNat)).tmod (IntKind.i64.wrap (Int.ofNat 1 + IntKind.i64.wrap (a.tmod (Int.ofNat 5)))) < (↑(IntKind.i64.wrap (Int.ofNat 1 + IntKind.i64.wrap (a.tmod (Int.ofNat 5)))).toNat : Int))
    (V.need (0 + ((g (0 + (↑x_2.i : Int).toNat)).tmod (IntKind.i64.wrap (Int.ofNat 1 + IntKind.i64.wrap (a.tmod (Int.ofNat 5))))).toNat < (nLb a).toNat)
    (V.need (0 + ((g (0 + (↑x_2.i : Int).toNat)).tmod (IntKind.i64.wrap (Int.ofNat 1 + IntKind.i64.wrap (a.tmod (Int.ofNat 5))))).toNat < (nLb a).toNat)
    (nN [(1, .lt 0 1)]
    (V.need (x_2.ls (0 + ((g (0 + (↑x_2.i : Int).toNat)).tmod (IntKind.i64.wrap (Int.ofNat 1 + IntKind.i64.wrap (a.tmod (Int.ofNat 5))))).toNat) ≤ x_2.ls (0 + ((g (0 + (↑x_2.i : Int).toNat)).tmod (IntKind.i64.wrap (Int.ofNat 1 + IntKind.i64.wrap (a.tmod (Int.ofNat 5))))).toNat) ∧ x_2.cp (0 + ((g (0 + (↑x_2.i : Int).toNat)).tmod (IntKind.i64.wrap (Int.ofNat 1 + IntKind.i64.wrap (a.tmod (Int.ofNat 5))))).toNat) = x_2.cp (0 + ((g (0 + (↑x_2.i : Int).toNat)).tmod (IntKind.i64.wrap (Int.ofNat 1 + IntKind.i64.wrap (a.tmod (Int.ofNat 5))))).toNat))
    (V.need (x_2.ls (0 + ((g (0 + (↑x_2.i : Int).toNat)).tmod (IntKind.i64.wrap (Int.ofNat 1 + IntKind.i64.wrap (a.tmod (Int.ofNat 5))))).toNat) + 1 ≤ 9223372036854775807 ∧ (x_2.ls (0 + ((g (0 + (↑x_2.i : Int).toNat)).tmod (IntKind.i64.wrap (Int.ofNat 1 + IntKind.i64.wrap (a.tmod (Int.ofNat 5))))).toNat) + 1) * 8 ≤ 140737488355328)
    (V.any Nat (fun (x : Nat) => x_2.ls (0 + ((g (0 + (↑x_2.i : Int).toNat)).tmod (IntKind.i64.wrap (Int.ofNat 1 + IntKind.i64.wrap (a.tmod (Int.ofNat 5))))).toNat) + 1 ≤ x) fun (x_4 : Nat) => V.need (Int.ofNat 0 ≤ (g (0 + (↑x_2.i : Int).toNat)).tmod (IntKind.i64.wrap (Int.ofNat 1 + IntKind.i64.wrap (a.tmod (Int.ofNat 5)))) ∧ (g (0 + (↑x_2.i : Int).toNat)).tmod (IntKind.i64.wrap (Int.ofNat 1 + IntKind.i64.wrap (a.tmod (Int.ofNat 5)))) < (↑(IntKind.i64.wrap (Int.ofNat 1 + IntKind.i64.wrap (a.tmod (Int.ofNat 5)))).toNat : Int))
    (V.need (0 + ((g (0 + (↑x_2.i : Int).toNat)).tmod (IntKind.i64.wrap (Int.ofNat 1 + IntKind.i64.wrap (a.tmod (Int.ofNat 5))))).toNat < (nLb a).toNat)
    (V.need (0 + ((g (0 + (↑x_2.i : Int).toNat)).tmod (IntKind.i64.wrap (Int.ofNat 1 + IntKind.i64.wrap (a.tmod (Int.ofNat 5))))).toNat < (nLb a).toNat)
    (V.need (True ∧ ∀ (i e : Nat), i = 0 ∧ e < (nLb a).toNat → ¬(i = 0 ∧ e = 0 + ((g (0 + (↑x_2.i : Int).toNat)).tmod (IntKind.i64.wrap (Int.ofNat 1 + IntKind.i64.wrap (a.tmod (Int.ofNat 5))))).toNat) → e ≠ 0 + ((g (0 + (↑x_2.i : Int).toNat)).tmod (IntKind.i64.wrap (Int.ofNat 1 + IntKind.i64.wrap (a.tmod (Int.ofNat 5))))).toNat)
    (V.need ((IntKind.i64.wrap ((↑x_2.i : Int) + Int.ofNat 1)).toNat ≤ len ∧ (Ws (yW (nLb a) (kLs b)) x.fst (nLb a).toNat (Mm.mk (fun (e : Nat) => x_3.m.g e) x_3.m.lk x_3.m.lc x_3.m.lo x_3.m.ln x_3.m.ct) (fun (e : Nat) => if 0 = 0 ∧ e = 0 + ((g (0 + (↑x_2.i : Int).toNat)).tmod (IntKind.i64.wrap (Int.ofNat 1 + IntKind.i64.wrap (a.tmod (Int.ofNat 5))))).toNat then x_2.ls (0 + ((g (0 + (↑x_2.i : Int).toNat)).tmod (IntKind.i64.wrap (Int.ofNat 1 + IntKind.i64.wrap (a.tmod (Int.ofNat 5))))).toNat) + 1 else x_2.ls e) fun (i e : Nat) => if i = 0 + ((g (0 + (↑x_2.i : Int).toNat)).tmod (IntKind.i64.wrap (Int.ofNat 1 + IntKind.i64.wrap (a.tmod (Int.ofNat 5))))).toNat then if 0 = 0 ∧ e = x_2.ls (0 + ((g (0 + (↑x_2.i : Int).toNat)).tmod (IntKind.i64.wrap (Int.ofNat 1 + IntKind.i64.wrap (a.tmod (Int.ofNat 5))))).toNat) then (↑x_2.i : Int) else x_2.S (0 + ((g (0 + (↑x_2.i : Int).toNat)).tmod (IntKind.i64.wrap (Int.ofNat 1 + IntKind.i64.wrap (a.tmod (Int.ofNat 5))))).toNat) e else x_2.S i e) ∧ (∀ (v : Nat), v < (nLb a).toNat → x_3.m.g (Tq (yW (nLb a) (kLs b)) v + Int.ofNat 1).toNat ≤ (↑(IntKind.i64.wrap ((↑x_2.i : Int) + Int.ofNat 1)).toNat : Int)) ∧ ∀ (v : Nat), (if 0 = 0 ∧ v = 0 + ((g (0 + (↑x_2.i : Int).toNat)).tmod (IntKind.i64.wrap (Int.ofNat 1 + IntKind.i64.wrap (a.tmod (Int.ofNat 5))))).toNat then x_2.ls (0 + ((g (0 + (↑x_2.i : Int).toNat)).tmod (IntKind.i64.wrap (Int.ofNat 1 + IntKind.i64.wrap (a.tmod (Int.ofNat 5))))).toNat) + 1 else x_2.ls v) ≤ if v = 0 + ((g (0 + (↑x_2.i : Int).toNat)).tmod (IntKind.i64.wrap (Int.ofNat 1 + IntKind.i64.wrap (a.tmod (Int.ofNat 5))))).toNat then x_4 else if v = 0 + ((g (0 + (↑x_2.i : Int).toNat)).tmod (IntKind.i64.wrap (Int.ofNat 1 + IntKind.i64.wrap (a.tmod (Int.ofNat 5))))).toNat then 0 else x_2.cp v)
    (V.need (len - (IntKind.i64.wrap ((↑x_2.i : Int) + Int.ofNat 1)).toNat < len - x_2.i)
    (V.need (IntKind.i64.wrap ((↑x_2.i : Int) + Int.ofNat 1) = (↑(IntKind.i64.wrap ((↑x_2.i : Int) + Int.ofNat 1)).toNat : Int))
    (nN [(2, .pf (x.fst = x.fst) rfl), (1, .pf (x_3.m.lk = x_3.m.lk) rfl), (1, .pf (x_3.m.lc = x_3.m.lc) rfl), (1, .pf (x_3.m.lo = x_3.m.lo) rfl), (1, .pf (x_3.m.ln = x_3.m.ln) rfl), (1, .pf (x_3.m.ct = x_3.m.ct) rfl), (1, .pf (x.fst = x.fst) rfl), (1, .pf (x.fst ≤ x.fst) (Nat.le_refl _)), (1, .pf (∀ (e : Nat), e < x.fst → x_3.m.g e = x_3.m.g e) (by intros; rfl)), (1, .pf ((nLb a).toNat = (nLb a).toNat) rfl)]
    (V.need ((nLb a).toNat ≤ (nLb a).toNat)
    (nN [(1, .pf (∀ (e : Nat), e < (nLb a).toNat → e = e) (by intros; rfl))]
    (V.need (∀ (e : Nat), e < (nLb a).toNat → (if 0 = 0 ∧ e = 0 + ((g (0 + (↑x_2.i : Int).toNat)).tmod (IntKind.i64.wrap (Int.ofNat 1 + IntKind.i64.wrap (a.tmod (Int.ofNat 5))))).toNat then x_2.ls (0 + ((g (0 + (↑x_2.i : Int).toNat)).tmod (IntKind.i64.wrap (Int.ofNat 1 + IntKind.i64.wrap (a.tmod (Int.ofNat 5))))).toNat) + 1 else x_2.ls e) = if 0 = 0 ∧ e = 0 + ((g (0 + (↑x_2.i : Int).toNat)).tmod (IntKind.i64.wrap (Int.ofNat 1 + IntKind.i64.wrap (a.tmod (Int.ofNat 5))))).toNat then x_2.ls (0 + ((g (0 + (↑x_2.i : Int).toNat)).tmod (IntKind.i64.wrap (Int.ofNat 1 + IntKind.i64.wrap (a.tmod (Int.ofNat 5))))).toNat) + 1 else x_2.ls e)
    (V.need (∀ (e : Nat), e < (nLb a).toNat → (if 0 = 0 ∧ e = 0 + ((g (0 + (↑x_2.i : Int).toNat)).tmod (IntKind.i64.wrap (Int.ofNat 1 + IntKind.i64.wrap (a.tmod (Int.ofNat 5))))).toNat then x_4 else x_2.cp e) = if e = 0 + ((g (0 + (↑x_2.i : Int).toNat)).tmod (IntKind.i64.wrap (Int.ofNat 1 + IntKind.i64.wrap (a.tmod (Int.ofNat 5))))).toNat then x_4 else if e = 0 + ((g (0 + (↑x_2.i : Int).toNat)).tmod (IntKind.i64.wrap (Int.ofNat 1 + IntKind.i64.wrap (a.tmod (Int.ofNat 5))))).toNat then 0 else x_2.cp e)
    (V.need (∀ (i : Nat), ((if i = 0 + ((g (0 + (↑x_2.i : Int).toNat)).tmod (IntKind.i64.wrap (Int.ofNat 1 + IntKind.i64.wrap (a.tmod (Int.ofNat 5))))).toNat then x_4 else if i = 0 + ((g (0 + (↑x_2.i : Int).toNat)).tmod (IntKind.i64.wrap (Int.ofNat 1 + IntKind.i64.wrap (a.tmod (Int.ofNat 5))))).toNat then 0 else x_2.cp i) = if i = 0 + ((g (0 + (↑x_2.i : Int).toNat)).tmod (IntKind.i64.wrap (Int.ofNat 1 + IntKind.i64.wrap (a.tmod (Int.ofNat 5))))).toNat then x_4 else if i = 0 + ((g (0 + (↑x_2.i : Int).toNat)).tmod (IntKind.i64.wrap (Int.ofNat 1 + IntKind.i64.wrap (a.tmod (Int.ofNat 5))))).toNat then 0 else x_2.cp i) ∨ (if i = 0 + ((g (0 + (↑x_2.i : Int).toNat)).tmod (IntKind.i64.wrap (Int.ofNat 1 + IntKind.i64.wrap (a.tmod (Int.ofNat 5))))).toNat then x_4 else if i = 0 + ((g (0 + (↑x_2.i : Int).toNat)).tmod (IntKind.i64.wrap (Int.ofNat 1 + IntKind.i64.wrap (a.tmod (Int.ofNat 5))))).toNat then 0 else x_2.cp i) = 0)
    (V.need (∀ (i : Nat), ((if 0 = 0 ∧ i = 0 + ((g (0 + (↑x_2.i : Int).toNat)).tmod (IntKind.i64.wrap (Int.ofNat 1 + IntKind.i64.wrap (a.tmod (Int.ofNat 5))))).toNat then x_2.ls (0 + ((g (0 + (↑x_2.i : Int).toNat)).tmod (IntKind.i64.wrap (Int.ofNat 1 + IntKind.i64.wrap (a.tmod (Int.ofNat 5))))).toNat) + 1 else x_2.ls i) ≤ if i = 0 + ((g (0 + (↑x_2.i : Int).toNat)).tmod (IntKind.i64.wrap (Int.ofNat 1 + IntKind.i64.wrap (a.tmod (Int.ofNat 5))))).toNat then x_4 else if i = 0 + ((g (0 + (↑x_2.i : Int).toNat)).tmod (IntKind.i64.wrap (Int.ofNat 1 + IntKind.i64.wrap (a.tmod (Int.ofNat 5))))).toNat then 0 else x_2.cp i) ∧ (if 0 = 0 ∧ i = 0 + ((g (0 + (↑x_2.i : Int).toNat)).tmod (IntKind.i64.wrap (Int.ofNat 1 + IntKind.i64.wrap (a.tmod (Int.ofNat 5))))).toNat then x_2.ls (0 + ((g (0 + (↑x_2.i : Int).toNat)).tmod (IntKind.i64.wrap (Int.ofNat 1 + IntKind.i64.wrap (a.tmod (Int.ofNat 5))))).toNat) + 1 else x_2.ls i) ≤ if i = 0 + ((g (0 + (↑x_2.i : Int).toNat)).tmod (IntKind.i64.wrap (Int.ofNat 1 + IntKind.i64.wrap (a.tmod (Int.ofNat 5))))).toNat then x_2.ls (0 + ((g (0 + (↑x_2.i : Int).toNat)).tmod (IntKind.i64.wrap (Int.ofNat 1 + IntKind.i64.wrap (a.tmod (Int.ofNat 5))))).toNat) + 1 else if i = 0 + ((g (0 + (↑x_2.i : Int).toNat)).tmod (IntKind.i64.wrap (Int.ofNat 1 + IntKind.i64.wrap (a.tmod (Int.ofNat 5))))).toNat then 0 else x_2.ls i)
    (V.need (∀ (i e : Nat), (e < if 0 = 0 ∧ i = 0 + ((g (0 + (↑x_2.i : Int).toNat)).tmod (IntKind.i64.wrap (Int.ofNat 1 + IntKind.i64.wrap (a.tmod (Int.ofNat 5))))).toNat then x_2.ls (0 + ((g (0 + (↑x_2.i : Int).toNat)).tmod (IntKind.i64.wrap (Int.ofNat 1 + IntKind.i64.wrap (a.tmod (Int.ofNat 5))))).toNat) + 1 else x_2.ls i) → (if i = 0 + ((g (0 + (↑x_2.i : Int).toNat)).tmod (IntKind.i64.wrap (Int.ofNat 1 + IntKind.i64.wrap (a.tmod (Int.ofNat 5))))).toNat then if 0 = 0 ∧ e = x_2.ls (0 + ((g (0 + (↑x_2.i : Int).toNat)).tmod (IntKind.i64.wrap (Int.ofNat 1 + IntKind.i64.wrap (a.tmod (Int.ofNat 5))))).toNat) then (↑x_2.i : Int) else x_2.S (0 + ((g (0 + (↑x_2.i : Int).toNat)).tmod (IntKind.i64.wrap (Int.ofNat 1 + IntKind.i64.wrap (a.tmod (Int.ofNat 5))))).toNat) e else x_2.S i e) = if i = 0 + ((g (0 + (↑x_2.i : Int).toNat)).tmod (IntKind.i64.wrap (Int.ofNat 1 + IntKind.i64.wrap (a.tmod (Int.ofNat 5))))).toNat then if 0 = 0 ∧ e = x_2.ls (0 + ((g (0 + (↑x_2.i : Int).toNat)).tmod (IntKind.i64.wrap (Int.ofNat 1 + IntKind.i64.wrap (a.tmod (Int.ofNat 5))))).toNat) then (↑x_2.i : Int) else x_2.S (0 + ((g (0 + (↑x_2.i : Int).toNat)).tmod (IntKind.i64.wrap (Int.ofNat 1 + IntKind.i64.wrap (a.tmod (Int.ofNat 5))))).toNat) e else x_2.S i e) V.ok)))))))))))))))))))))
    (V.need ((IntKind.i64.wrap ((↑x_2.i : Int) + Int.ofNat 1)).toNat ≤ len ∧ Ws (yW (nLb a) (kLs b)) x.fst (nLb a).toNat (Mm.mk (fun (e : Nat) => x_3.m.g e) x_3.m.lk x_3.m.lc x_3.m.lo x_3.m.ln x_3.m.ct) (fun (e : Nat) => x_2.ls e) x_2.S ∧ (∀ (v : Nat), v < (nLb a).toNat → x_3.m.g (Tq (yW (nLb a) (kLs b)) v + Int.ofNat 1).toNat ≤ (↑(IntKind.i64.wrap ((↑x_2.i : Int) + Int.ofNat 1)).toNat : Int)) ∧ ∀ (v : Nat), x_2.ls v ≤ x_2.cp v)
    (V.need (len - (IntKind.i64.wrap ((↑x_2.i : Int) + Int.ofNat 1)).toNat < len - x_2.i)
    (V.need (IntKind.i64.wrap ((↑x_2.i : Int) + Int.ofNat 1) = (↑(IntKind.i64.wrap ((↑x_2.i : Int) + Int.ofNat 1)).toNat : Int))
    (nN [(2, .pf (x.fst = x.fst) rfl), (1, .pf (x_3.m.lk = x_3.m.lk) rfl), (1, .pf (x_3.m.lc = x_3.m.lc) rfl), (1, .pf (x_3.m.lo = x_3.m.lo) rfl), (1, .pf (x_3.m.ln = x_3.m.ln) rfl), (1, .pf (x_3.m.ct = x_3.m.ct) rfl), (1, .pf (x.fst = x.fst) rfl), (1, .pf (x.fst ≤ x.fst) (Nat.le_refl _)), (1, .pf (∀ (e : Nat), e < x.fst → x_3.m.g e = x_3.m.g e) (by intros; rfl)), (1, .pf ((nLb a).toNat = (nLb a).toNat) rfl)]
    (V.need ((nLb a).toNat ≤ (nLb a).toNat)
    (nN [(1, .pf (∀ (e : Nat), e < (nLb a).toNat → e = e) (by intros; rfl)), (1, .pf (∀ (e : Nat), e < (nLb a).toNat → x_2.ls e = x_2.ls e) (by intros; rfl)), (1, .pf (∀ (e : Nat), e < (nLb a).toNat → x_2.cp e = x_2.cp e) (by intros; rfl))]
    (V.need (∀ (i : Nat), x_2.cp i = x_2.cp i ∨ x_2.cp i = 0)
    (V.need (∀ (i : Nat), x_2.ls i ≤ x_2.cp i ∧ x_2.ls i ≤ x_2.ls i)
    (nN [(1, .pf (∀ (i e : Nat), e < x_2.ls i → x_2.S i e = x_2.S i e) (by intros; rfl))] V.ok)))))))))))))))))))))))
    (V.need (-Int.ofNat 1 ≤ IntKind.i64.wrap (IntKind.i64.wrap (Int.ofNat 1 + IntKind.i64.wrap (a.tmod (Int.ofNat 5))) - Int.ofNat 1) ∧ IntKind.i64.wrap (IntKind.i64.wrap (Int.ofNat 1 + IntKind.i64.wrap (a.tmod (Int.ofNat 5))) - Int.ofNat 1) < nLb a ∧ ∀ (u : Nat), IntKind.i64.wrap (IntKind.i64.wrap (Int.ofNat 1 + IntKind.i64.wrap (a.tmod (Int.ofNat 5))) - Int.ofNat 1) < (↑u : Int) → u < (nLb a).toNat → x_2.ls u = 0)
    (nN [(1, .pf (IntKind.i64.wrap (IntKind.i64.wrap (Int.ofNat 1 + IntKind.i64.wrap (a.tmod (Int.ofNat 5))) - Int.ofNat 1) = IntKind.i64.wrap (IntKind.i64.wrap (Int.ofNat 1 + IntKind.i64.wrap (a.tmod (Int.ofNat 5))) - Int.ofNat 1)) rfl)]
    (V.any Int (fun (v : Int) => -Int.ofNat 1 ≤ v ∧ v < nLb a ∧ ∀ (u : Nat), v < (↑u : Int) → u < (nLb a).toNat → x_2.ls u = 0) fun (x_3 : Int) => V.br (decide (x_3 ≥ Int.ofNat 0))
    (V.need (Int.ofNat 0 ≤ x_3 ∧ x_3 < (↑(IntKind.i64.wrap (Int.ofNat 1 + IntKind.i64.wrap (a.tmod (Int.ofNat 5)))).toNat : Int))
    (V.need (0 < 1 ∧ 0 + x_3.toNat < (nLb a).toNat)
    (V.need (0 < 1 ∧ 0 + x_3.toNat < (nLb a).toNat)
    (V.br ((↑(x_2.ls (0 + x_3.toNat)) : Int) == Int.ofNat 0)
    (V.need (-Int.ofNat 1 ≤ IntKind.i64.wrap (x_3 - Int.ofNat 1) ∧ IntKind.i64.wrap (x_3 - Int.ofNat 1) < nLb a ∧ ∀ (u : Nat), IntKind.i64.wrap (x_3 - Int.ofNat 1) < (↑u : Int) → u < (nLb a).toNat → x_2.ls u = 0)
    (V.need ((IntKind.i64.wrap (x_3 - Int.ofNat 1) + Int.ofNat 1).toNat < (x_3 + Int.ofNat 1).toNat)
    (nN [(1, .pf (IntKind.i64.wrap (x_3 - Int.ofNat 1) = IntKind.i64.wrap (x_3 - Int.ofNat 1)) rfl)] V.ok)))
    (V.need (Int.ofNat 200 = (↑200 : Int))
    (nN [(1, .le 1 1), (1, .pf (∀ (i : Nat), i < 1 → 1 ≤ 1) (by intros; exact Nat.le_refl _)), (1, .eqI 1 1), (1, .pf (IntKind.i64.wrap (Int.ofNat 1 + IntKind.i64.wrap (a.tmod (Int.ofNat 5))) = IntKind.i64.wrap (Int.ofNat 1 + IntKind.i64.wrap (a.tmod (Int.ofNat 5)))) rfl), (2, .eqI 1 1), (1, .pf (IntKind.i64.wrap (Int.ofNat 1 + IntKind.i64.wrap (b.tmod (Int.ofNat 4))) = IntKind.i64.wrap (Int.ofNat 1 + IntKind.i64.wrap (b.tmod (Int.ofNat 4)))) rfl), (1, .eqI 1 1), (1, .eqI 5 5), (1, .eqI 6 6), (1, .eqI 7 7), (1, .eqI 8 8), (1, .pf (x.snd = x.snd) rfl), (2, .pf (x.fst = x.fst) rfl), (1, .pf (x_2.m.lk = x_2.m.lk) rfl), (1, .pf (x_2.m.lc = x_2.m.lc) rfl), (1, .pf (x_2.m.lo = x_2.m.lo) rfl), (1, .pf (x_2.m.ln = x_2.m.ln) rfl), (1, .pf (x_2.m.ct = x_2.m.ct) rfl), (1, .pf (x.fst = x.fst) rfl), (1, .pf (x.fst ≤ x.fst) (Nat.le_refl _)), (1, .pf (∀ (e : Nat), e < x.fst → x_2.m.g e = x_2.m.g e) (by intros; rfl)), (2, .eqI 0 0)]
    (V.need (pPo (AP.mk (Ly.mk (Int.ofNat 1) (IntKind.i64.wrap (Int.ofNat 1 + IntKind.i64.wrap (a.tmod (Int.ofNat 5)))) (Int.ofNat 1) (Int.ofNat 1) (IntKind.i64.wrap (Int.ofNat 1 + IntKind.i64.wrap (b.tmod (Int.ofNat 4)))) (Int.ofNat 1) (Int.ofNat 5) (Int.ofNat 6) (Int.ofNat 7) (Int.ofNat 8) x.snd) 7 8 (NV.s x.fst) (NV.s x.fst) (Mm.mk (fun (e : Nat) => x_2.m.g e) x_2.m.lk x_2.m.lc x_2.m.lo x_2.m.ln x_2.m.ct)) (Int.ofNat 0) 200)
    (nN [(1, .pf (∃ (x_4 : Rs), x_4 = popR (Ly.mk (Int.ofNat 1) (IntKind.i64.wrap (Int.ofNat 1 + IntKind.i64.wrap (a.tmod (Int.ofNat 5)))) (Int.ofNat 1) (Int.ofNat 1) (IntKind.i64.wrap (Int.ofNat 1 + IntKind.i64.wrap (b.tmod (Int.ofNat 4)))) (Int.ofNat 1) (Int.ofNat 5) (Int.ofNat 6) (Int.ofNat 7) (Int.ofNat 8) x.snd) x.fst (Int.ofNat 0) 200 (Mm.mk (fun (e : Nat) => x_2.m.g e) x_2.m.lk x_2.m.lc x_2.m.lo x_2.m.ln x_2.m.ct)) ⟨_, rfl⟩)]
    (V.any Rs (fun (r : Rs) => r = popR (Ly.mk (Int.ofNat 1) (IntKind.i64.wrap (Int.ofNat 1 + IntKind.i64.wrap (a.tmod (Int.ofNat 5)))) (Int.ofNat 1) (Int.ofNat 1) (IntKind.i64.wrap (Int.ofNat 1 + IntKind.i64.wrap (b.tmod (Int.ofNat 4)))) (Int.ofNat 1) (Int.ofNat 5) (Int.ofNat 6) (Int.ofNat 7) (Int.ofNat 8) x.snd) x.fst (Int.ofNat 0) 200 (Mm.mk (fun (e : Nat) => x_2.m.g e) x_2.m.lk x_2.m.lc x_2.m.lo x_2.m.ln x_2.m.ct)) fun (x_4 : Rs) => V.br (decide (x_3 < Int.ofNat 0))
    (V.br (x_4.c != Int.ofNat 2)
    (V.bad 420)
    (V.need ((IntKind.i64.wrap ((↑x_2.i : Int) + Int.ofNat 1)).toNat ≤ len ∧ Ws (yW (nLb a) (kLs b)) x.fst (nLb a).toNat (Mm.mk (fun (e : Nat) => x_4.m.g e) x_4.m.lk x_4.m.lc x_4.m.lo x_4.m.ln x_4.m.ct) (fun (e : Nat) => x_2.ls e) x_2.S ∧ (∀ (v : Nat), v < (nLb a).toNat → x_4.m.g (Tq (yW (nLb a) (kLs b)) v + Int.ofNat 1).toNat ≤ (↑(IntKind.i64.wrap ((↑x_2.i : Int) + Int.ofNat 1)).toNat : Int)) ∧ ∀ (v : Nat), x_2.ls v ≤ x_2.cp v)
    (V.need (len - (IntKind.i64.wrap ((↑x_2.i : Int) + Int.ofNat 1)).toNat < len - x_2.i)
    (V.need (IntKind.i64.wrap ((↑x_2.i : Int) + Int.ofNat 1) = (↑(IntKind.i64.wrap ((↑x_2.i : Int) + Int.ofNat 1)).toNat : Int))
    (nN [(2, .pf (x.fst = x.fst) rfl), (1, .pf (x_4.m.lk = x_4.m.lk) rfl), (1, .pf (x_4.m.lc = x_4.m.lc) rfl), (1, .pf (x_4.m.lo = x_4.m.lo) rfl), (1, .pf (x_4.m.ln = x_4.m.ln) rfl), (1, .pf (x_4.m.ct = x_4.m.ct) rfl), (1, .pf (x.fst = x.fst) rfl), (1, .pf (x.fst ≤ x.fst) (Nat.le_refl _)), (1, .pf (∀ (e : Nat), e < x.fst → x_4.m.g e = x_4.m.g e) (by intros; rfl)), (1, .pf ((nLb a).toNat = (nLb a).toNat) rfl)]
    (V.need ((nLb a).toNat ≤ (nLb a).toNat)
    (nN [(1, .pf (∀ (e : Nat), e < (nLb a).toNat → e = e) (by intros; rfl)), (1, .pf (∀ (e : Nat), e < (nLb a).toNat → x_2.ls e = x_2.ls e) (by intros; rfl)), (1, .pf (∀ (e : Nat), e < (nLb a).toNat → x_2.cp e = x_2.cp e) (by intros; rfl))]
    (V.need (∀ (i : Nat), x_2.cp i = x_2.cp i ∨ x_2.cp i = 0)
    (V.need (∀ (i : Nat), x_2.ls i ≤ x_2.cp i ∧ x_2.ls i ≤ x_2.ls i)
    (nN [(1, .pf (∀ (i e : Nat), e < x_2.ls i → x_2.S i e = x_2.S i e) (by intros; rfl))] V.ok))))))))))
    (V.br (x_4.c != Int.ofNat 1)
    (V.bad 420)
    (V.need (Int.ofNat 0 ≤ x_3 ∧ x_3 < (↑(IntKind.i64.wrap (Int.ofNat 1 + IntKind.i64.wrap (a.tmod (Int.ofNat 5)))).toNat : Int))
    (V.need (0 < 1 ∧ 0 + x_3.toNat < (nLb a).toNat)
    (V.need (0 < 1 ∧ 0 + x_3.toNat < (nLb a).toNat)
    (V.need (Int.ofNat 0 ≤ x_3 ∧ x_3 < (↑(IntKind.i64.wrap (Int.ofNat 1 + IntKind.i64.wrap (a.tmod (Int.ofNat 5)))).toNat : Int))
    (V.need (0 < 1 ∧ 0 + x_3.toNat < (nLb a).toNat)
    (V.need (0 < 1 ∧ 0 + x_3.toNat < (nLb a).toNat)
    (V.need (Int.ofNat 0 ≤ IntKind.i64.wrap ((↑(x_2.ls (0 + x_3.toNat)) : Int) - Int.ofNat 1) ∧ IntKind.i64.wrap ((↑(x_2.ls (0 + x_3.toNat)) : Int) - Int.ofNat 1) < (↑(x_2.ls (0 + x_3.toNat)) : Int))
    (V.need (0 + (IntKind.i64.wrap ((↑(x_2.ls (0 + x_3.toNat)) : Int) - Int.ofNat 1)).toNat < x_2.ls (0 + x_3.toNat))
    (V.need (0 + (IntKind.i64.wrap ((↑(x_2.ls (0 + x_3.toNat)) : Int) - Int.ofNat 1)).toNat < x_2.ls (0 + x_3.toNat))
    (V.br (x_4.v != x_2.S (0 + x_3.toNat) (0 + (IntKind.i64.wrap ((↑(x_2.ls (0 + x_3.toNat)) : Int) - Int.ofNat 1)).toNat))
    (V.bad 420)
    (V.need (Int.ofNat 0 ≤ x_3 ∧ x_3 < (↑(IntKind.i64.wrap (Int.ofNat 1 + IntKind.i64.wrap (a.tmod (Int.ofNat 5)))).toNat : Int))
    (V.need (0 < 1 ∧ 0 + x_3.toNat < (nLb a).toNat)
    (V.need (0 < 1 ∧ 0 + x_3.toNat < (nLb a).toNat)
    (V.need (Int.ofNat 0 ≤ x_3 ∧ x_3 < (↑(IntKind.i64.wrap (Int.ofNat 1 + IntKind.i64.wrap (a.tmod (Int.ofNat 5)))).toNat : Int))
    (V.need (0 < 1 ∧ 0 + x_3.toNat < (nLb a).toNat)
    (V.need (0 < 1 ∧ 0 + x_3.toNat < (nLb a).toNat)
    (V.need (Int.ofNat 0 ≤ Int.ofNat 0 ∧ Int.ofNat 0 ≤ IntKind.i64.wrap ((↑(x_2.ls (0 + x_3.toNat)) : Int) - Int.ofNat 1) ∧ IntKind.i64.wrap ((↑(x_2.ls (0 + x_3.toNat)) : Int) - Int.ofNat 1) ≤ (↑(x_2.cp (0 + x_3.toNat)) : Int))
    (V.need (Int.ofNat 0 ≤ x_3 ∧ x_3 < (↑(IntKind.i64.wrap (Int.ofNat 1 + IntKind.i64.wrap (a.tmod (Int.ofNat 5)))).toNat : Int))
    (V.need (0 < 1 ∧ 0 + x_3.toNat < (nLb a).toNat)
    (V.need (0 + x_3.toNat < (nLb a).toNat)
    (V.need ((IntKind.i64.wrap ((↑x_2.i : Int) + Int.ofNat 1)).toNat ≤ len ∧ Ws (yW (nLb a) (kLs b)) x.fst (nLb a).toNat (Mm.mk (fun (e : Nat) => x_4.m.g e) x_4.m.lk x_4.m.lc x_4.m.lo x_4.m.ln x_4.m.ct) (fun (e : Nat) => if 0 = 0 ∧ e = 0 + x_3.toNat then (IntKind.i64.wrap ((↑(x_2.ls (0 + x_3.toNat)) : Int) - Int.ofNat 1)).toNat else x_2.ls e) x_2.S ∧ (∀ (v : Nat), v < (nLb a).toNat → x_4.m.g (Tq (yW (nLb a) (kLs b)) v + Int.ofNat 1).toNat ≤ (↑(IntKind.i64.wrap ((↑x_2.i : Int) + Int.ofNat 1)).toNat : Int)) ∧ ∀ (v : Nat), (if 0 = 0 ∧ v = 0 + x_3.toNat then (IntKind.i64.wrap ((↑(x_2.ls (0 + x_3.toNat)) : Int) - Int.ofNat 1)).toNat else x_2.ls v) ≤ x_2.cp v)
    (V.need (len - (IntKind.i64.wrap ((↑x_2.i : Int) + Int.ofNat 1)).toNat < len - x_2.i)
    (V.need (IntKind.i64.wrap ((↑x_2.i : Int) + Int.ofNat 1) = (↑(IntKind.i64.wrap ((↑x_2.i : Int) + Int.ofNat 1)).toNat : Int))
    (nN [(2, .pf (x.fst = x.fst) rfl), (1, .pf (x_4.m.lk = x_4.m.lk) rfl), (1, .pf (x_4.m.lc = x_4.m.lc) rfl), (1, .pf (x_4.m.lo = x_4.m.lo) rfl), (1, .pf (x_4.m.ln = x_4.m.ln) rfl), (1, .pf (x_4.m.ct = x_4.m.ct) rfl), (1, .pf (x.fst = x.fst) rfl), (1, .pf (x.fst ≤ x.fst) (Nat.le_refl _)), (1, .pf (∀ (e : Nat), e < x.fst → x_4.m.g e = x_4.m.g e) (by intros; rfl)), (1, .pf ((nLb a).toNat = (nLb a).toNat) rfl)]
    (V.need ((nLb a).toNat ≤ (nLb a).toNat)
    (V.need (∀ (e : Nat), e < (nLb a).toNat → (if 0 = 0 ∧ e = 0 + x_3.toNat then 0 + x_3.toNat else e) = e)
    (V.need (∀ (e : Nat), e < (nLb a).toNat → (if 0 = 0 ∧ e = 0 + x_3.toNat then (IntKind.i64.wrap ((↑(x_2.ls (0 + x_3.toNat)) : Int) - Int.ofNat 1)).toNat else x_2.ls e) = if 0 = 0 ∧ e = 0 + x_3.toNat then (IntKind.i64.wrap ((↑(x_2.ls (0 + x_3.toNat)) : Int) - Int.ofNat 1)).toNat else x_2.ls e)
    (V.need (∀ (e : Nat), e < (nLb a).toNat → (if 0 = 0 ∧ e = 0 + x_3.toNat then x_2.cp (0 + x_3.toNat) else x_2.cp e) = x_2.cp e)
    (V.need (∀ (i : Nat), x_2.cp i = x_2.cp i ∨ x_2.cp i = 0)
    (V.need (∀ (i : Nat), (if 0 = 0 ∧ i = 0 + x_3.toNat then (IntKind.i64.wrap ((↑(x_2.ls (0 + x_3.toNat)) : Int) - Int.ofNat 1)).toNat else x_2.ls i) ≤ x_2.cp i ∧ (if 0 = 0 ∧ i = 0 + x_3.toNat then (IntKind.i64.wrap ((↑(x_2.ls (0 + x_3.toNat)) : Int) - Int.ofNat 1)).toNat else x_2.ls i) ≤ x_2.ls i)
    (nN [(1, .pf (∀ (i e : Nat), (e < if 0 = 0 ∧ i = 0 + x_3.toNat then (IntKind.i64.wrap ((↑(x_2.ls (0 + x_3.toNat)) : Int) - Int.ofNat 1)).toNat else x_2.ls i) → x_2.S i e = x_2.S i e) (by intros; rfl))] V.ok)))))))))))))))))))))))))))))))))))))))))
    (V.need (Int.ofNat 200 = (↑200 : Int))
    (nN [(1, .le 1 1), (1, .pf (∀ (i : Nat), i < 1 → 1 ≤ 1) (by intros; exact Nat.le_refl _)), (1, .eqI 1 1), (1, .pf (IntKind.i64.wrap (Int.ofNat 1 + IntKind.i64.wrap (a.tmod (Int.ofNat 5))) = IntKind.i64.wrap (Int.ofNat 1 + IntKind.i64.wrap (a.tmod (Int.ofNat 5)))) rfl), (2, .eqI 1 1), (1, .pf (IntKind.i64.wrap (Int.ofNat 1 + IntKind.i64.wrap (b.tmod (Int.ofNat 4))) = IntKind.i64.wrap (Int.ofNat 1 + IntKind.i64.wrap (b.tmod (Int.ofNat 4)))) rfl), (1, .eqI 1 1), (1, .eqI 5 5), (1, .eqI 6 6), (1, .eqI 7 7), (1, .eqI 8 8), (1, .pf (x.snd = x.snd) rfl), (2, .pf (x.fst = x.fst) rfl), (1, .pf (x_2.m.lk = x_2.m.lk) rfl), (1, .pf (x_2.m.lc = x_2.m.lc) rfl), (1, .pf (x_2.m.lo = x_2.m.lo) rfl), (1, .pf (x_2.m.ln = x_2.m.ln) rfl), (1, .pf (x_2.m.ct = x_2.m.ct) rfl), (1, .pf (x.fst = x.fst) rfl), (1, .pf (x.fst ≤ x.fst) (Nat.le_refl _)), (1, .pf (∀ (e : Nat), e < x.fst → x_2.m.g e = x_2.m.g e) (by intros; rfl)), (2, .eqI 0 0)]
    (V.need (pPo (AP.mk (Ly.mk (Int.ofNat 1) (IntKind.i64.wrap (Int.ofNat 1 + IntKind.i64.wrap (a.tmod (Int.ofNat 5)))) (Int.ofNat 1) (Int.ofNat 1) (IntKind.i64.wrap (Int.ofNat 1 + IntKind.i64.wrap (b.tmod (Int.ofNat 4)))) (Int.ofNat 1) (Int.ofNat 5) (Int.ofNat 6) (Int.ofNat 7) (Int.ofNat 8) x.snd) 7 8 (NV.s x.fst) (NV.s x.fst) (Mm.mk (fun (e : Nat) => x_2.m.g e) x_2.m.lk x_2.m.lc x_2.m.lo x_2.m.ln x_2.m.ct)) (Int.ofNat 0) 200)
    (nN [(1, .pf (∃ (x_4 : Rs), x_4 = popR (Ly.mk (Int.ofNat 1) (IntKind.i64.wrap (Int.ofNat 1 + IntKind.i64.wrap (a.tmod (Int.ofNat 5)))) (Int.ofNat 1) (Int.ofNat 1) (IntKind.i64.wrap (Int.ofNat 1 + IntKind.i64.wrap (b.tmod (Int.ofNat 4)))) (Int.ofNat 1) (Int.ofNat 5) (Int.ofNat 6) (Int.ofNat 7) (Int.ofNat 8) x.snd) x.fst (Int.ofNat 0) 200 (Mm.mk (fun (e : Nat) => x_2.m.g e) x_2.m.lk x_2.m.lc x_2.m.lo x_2.m.ln x_2.m.ct)) ⟨_, rfl⟩)]
    (V.any Rs (fun (r : Rs) => r = popR (Ly.mk (Int.ofNat 1) (IntKind.i64.wrap (Int.ofNat 1 + IntKind.i64.wrap (a.tmod (Int.ofNat 5)))) (Int.ofNat 1) (Int.ofNat 1) (IntKind.i64.wrap (Int.ofNat 1 + IntKind.i64.wrap (b.tmod (Int.ofNat 4)))) (Int.ofNat 1) (Int.ofNat 5) (Int.ofNat 6) (Int.ofNat 7) (Int.ofNat 8) x.snd) x.fst (Int.ofNat 0) 200 (Mm.mk (fun (e : Nat) => x_2.m.g e) x_2.m.lk x_2.m.lc x_2.m.lo x_2.m.ln x_2.m.ct)) fun (x_4 : Rs) => V.br (decide (x_3 < Int.ofNat 0))
    (V.br (x_4.c != Int.ofNat 2)
    (V.bad 420)
    (V.need ((IntKind.i64.wrap ((↑x_2.i : Int) + Int.ofNat 1)).toNat ≤ len ∧ Ws (yW (nLb a) (kLs b)) x.fst (nLb a).toNat (Mm.mk (fun (e : Nat) => x_4.m.g e) x_4.m.lk x_4.m.lc x_4.m.lo x_4.m.ln x_4.m.ct) (fun (e : Nat) => x_2.ls e) x_2.S ∧ (∀ (v : Nat), v < (nLb a).toNat → x_4.m.g (Tq (yW (nLb a) (kLs b)) v + Int.ofNat 1).toNat ≤ (↑(IntKind.i64.wrap ((↑x_2.i : Int) + Int.ofNat 1)).toNat : Int)) ∧ ∀ (v : Nat), x_2.ls v ≤ x_2.cp v)
    (V.need (len - (IntKind.i64.wrap ((↑x_2.i : Int) + Int.ofNat 1)).toNat < len - x_2.i)
    (V.need (IntKind.i64.wrap ((↑x_2.i : Int) + Int.ofNat 1) = (↑(IntKind.i64.wrap ((↑x_2.i : Int) + Int.ofNat 1)).toNat : Int))
    (nN [(2, .pf (x.fst = x.fst) rfl), (1, .pf (x_4.m.lk = x_4.m.lk) rfl), (1, .pf (x_4.m.lc = x_4.m.lc) rfl), (1, .pf (x_4.m.lo = x_4.m.lo) rfl), (1, .pf (x_4.m.ln = x_4.m.ln) rfl), (1, .pf (x_4.m.ct = x_4.m.ct) rfl), (1, .pf (x.fst = x.fst) rfl), (1, .pf (x.fst ≤ x.fst) (Nat.le_refl _)), (1, .pf (∀ (e : Nat), e < x.fst → x_4.m.g e = x_4.m.g e) (by intros; rfl)), (1, .pf ((nLb a).toNat = (nLb a).toNat) rfl)]
    (V.need ((nLb a).toNat ≤ (nLb a).toNat)
    (nN [(1, .pf (∀ (e : Nat), e < (nLb a).toNat → e = e) (by intros; rfl)), (1, .pf (∀ (e : Nat), e < (nLb a).toNat → x_2.ls e = x_2.ls e) (by intros; rfl)), (1, .pf (∀ (e : Nat), e < (nLb a).toNat → x_2.cp e = x_2.cp e) (by intros; rfl))]
    (V.need (∀ (i : Nat), x_2.cp i = x_2.cp i ∨ x_2.cp i = 0)
    (V.need (∀ (i : Nat), x_2.ls i ≤ x_2.cp i ∧ x_2.ls i ≤ x_2.ls i)
    (nN [(1, .pf (∀ (i e : Nat), e < x_2.ls i → x_2.S i e = x_2.S i e) (by intros; rfl))] V.ok))))))))))
    (V.br (x_4.c != Int.ofNat 1)
    (V.bad 420)
    (V.need (Int.ofNat 0 ≤ x_3 ∧ x_3 < (↑(IntKind.i64.wrap (Int.ofNat 1 + IntKind.i64.wrap (a.tmod (Int.ofNat 5)))).toNat : Int))
    (V.need (0 < 1 ∧ 0 + x_3.toNat < (nLb a).toNat)
    (V.need (0 < 1 ∧ 0 + x_3.toNat < (nLb a).toNat)
    (V.need (Int.ofNat 0 ≤ x_3 ∧ x_3 < (↑(IntKind.i64.wrap (Int.ofNat 1 + IntKind.i64.wrap (a.tmod (Int.ofNat 5)))).toNat : Int))
    (V.need (0 < 1 ∧ 0 + x_3.toNat < (nLb a).toNat)
    (V.need (0 < 1 ∧ 0 + x_3.toNat < (nLb a).toNat)
    (V.need (Int.ofNat 0 ≤ IntKind.i64.wrap ((↑(x_2.ls (0 + x_3.toNat)) : Int) - Int.ofNat 1) ∧ IntKind.i64.wrap ((↑(x_2.ls (0 + x_3.toNat)) : Int) - Int.ofNat 1) < (↑(x_2.ls (0 + x_3.toNat)) : Int))
    (V.need (0 + (IntKind.i64.wrap ((↑(x_2.ls (0 + x_3.toNat)) : Int) - Int.ofNat 1)).toNat < x_2.ls (0 + x_3.toNat))
    (V.need (0 + (IntKind.i64.wrap ((↑(x_2.ls (0 + x_3.toNat)) : Int) - Int.ofNat 1)).toNat < x_2.ls (0 + x_3.toNat))
    (V.br (x_4.v != x_2.S (0 + x_3.toNat) (0 + (IntKind.i64.wrap ((↑(x_2.ls (0 + x_3.toNat)) : Int) - Int.ofNat 1)).toNat))
    (V.bad 420)
    (V.need (Int.ofNat 0 ≤ x_3 ∧ x_3 < (↑(IntKind.i64.wrap (Int.ofNat 1 + IntKind.i64.wrap (a.tmod (Int.ofNat 5)))).toNat : Int))
    (V.need (0 < 1 ∧ 0 + x_3.toNat < (nLb a).toNat)
    (V.need (0 < 1 ∧ 0 + x_3.toNat < (nLb a).toNat)
    (V.need (Int.ofNat 0 ≤ x_3 ∧ x_3 < (↑(IntKind.i64.wrap (Int.ofNat 1 + IntKind.i64.wrap (a.tmod (Int.ofNat 5)))).toNat : Int))
    (V.need (0 < 1 ∧ 0 + x_3.toNat < (nLb a).toNat)
    (V.need (0 < 1 ∧ 0 + x_3.toNat < (nLb a).toNat)
    (V.need (Int.ofNat 0 ≤ Int.ofNat 0 ∧ Int.ofNat 0 ≤ IntKind.i64.wrap ((↑(x_2.ls (0 + x_3.toNat)) : Int) - Int.ofNat 1) ∧ IntKind.i64.wrap ((↑(x_2.ls (0 + x_3.toNat)) : Int) - Int.ofNat 1) ≤ (↑(x_2.cp (0 + x_3.toNat)) : Int))
    (V.need (Int.ofNat 0 ≤ x_3 ∧ x_3 < (↑(IntKind.i64.wrap (Int.ofNat 1 + IntKind.i64.wrap (a.tmod (Int.ofNat 5)))).toNat : Int))
    (V.need (0 < 1 ∧ 0 + x_3.toNat < (nLb a).toNat)
    (V.need (0 + x_3.toNat < (nLb a).toNat)
    (V.need ((IntKind.i64.wrap ((↑x_2.i : Int) + Int.ofNat 1)).toNat ≤ len ∧ Ws (yW (nLb a) (kLs b)) x.fst (nLb a).toNat (Mm.mk (fun (e : Nat) => x_4.m.g e) x_4.m.lk x_4.m.lc x_4.m.lo x_4.m.ln x_4.m.ct) (fun (e : Nat) => if 0 = 0 ∧ e = 0 + x_3.toNat then (IntKind.i64.wrap ((↑(x_2.ls (0 + x_3.toNat)) : Int) - Int.ofNat 1)).toNat else x_2.ls e) x_2.S ∧ (∀ (v : Nat), v < (nLb a).toNat → x_4.m.g (Tq (yW (nLb a) (kLs b)) v + Int.ofNat 1).toNat ≤ (↑(IntKind.i64.wrap ((↑x_2.i : Int) + Int.ofNat 1)).toNat : Int)) ∧ ∀ (v : Nat), (if 0 = 0 ∧ v = 0 + x_3.toNat then (IntKind.i64.wrap ((↑(x_2.ls (0 + x_3.toNat)) : Int) - Int.ofNat 1)).toNat else x_2.ls v) ≤ x_2.cp v)
    (V.need (len - (IntKind.i64.wrap ((↑x_2.i : Int) + Int.ofNat 1)).toNat < len - x_2.i)
    (V.need (IntKind.i64.wrap ((↑x_2.i : Int) + Int.ofNat 1) = (↑(IntKind.i64.wrap ((↑x_2.i : Int) + Int.ofNat 1)).toNat : Int))
    (nN [(2, .pf (x.fst = x.fst) rfl), (1, .pf (x_4.m.lk = x_4.m.lk) rfl), (1, .pf (x_4.m.lc = x_4.m.lc) rfl), (1, .pf (x_4.m.lo = x_4.m.lo) rfl), (1, .pf (x_4.m.ln = x_4.m.ln) rfl), (1, .pf (x_4.m.ct = x_4.m.ct) rfl), (1, .pf (x.fst = x.fst) rfl), (1, .pf (x.fst ≤ x.fst) (Nat.le_refl _)), (1, .pf (∀ (e : Nat), e < x.fst → x_4.m.g e = x_4.m.g e) (by intros; rfl)), (1, .pf ((nLb a).toNat = (nLb a).toNat) rfl)]
    (V.need ((nLb a).toNat ≤ (nLb a).toNat)
    (V.need (∀ (e : Nat), e < (nLb a).toNat → (if 0 = 0 ∧ e = 0 + x_3.toNat then 0 + x_3.toNat else e) = e)
    (V.need (∀ (e : Nat), e < (nLb a).toNat → (if 0 = 0 ∧ e = 0 + x_3.toNat then (IntKind.i64.wrap ((↑(x_2.ls (0 + x_3.toNat)) : Int) - Int.ofNat 1)).toNat else x_2.ls e) = if 0 = 0 ∧ e = 0 + x_3.toNat then (IntKind.i64.wrap ((↑(x_2.ls (0 + x_3.toNat)) : Int) - Int.ofNat 1)).toNat else x_2.ls e)
    (V.need (∀ (e : Nat), e < (nLb a).toNat → (if 0 = 0 ∧ e = 0 + x_3.toNat then x_2.cp (0 + x_3.toNat) else x_2.cp e) = x_2.cp e)
    (V.need (∀ (i : Nat), x_2.cp i = x_2.cp i ∨ x_2.cp i = 0)
    (V.need (∀ (i : Nat), (if 0 = 0 ∧ i = 0 + x_3.toNat then (IntKind.i64.wrap ((↑(x_2.ls (0 + x_3.toNat)) : Int) - Int.ofNat 1)).toNat else x_2.ls i) ≤ x_2.cp i ∧ (if 0 = 0 ∧ i = 0 + x_3.toNat then (IntKind.i64.wrap ((↑(x_2.ls (0 + x_3.toNat)) : Int) - Int.ofNat 1)).toNat else x_2.ls i) ≤ x_2.ls i)
    (nN [(1, .pf (∀ (i e : Nat), (e < if 0 = 0 ∧ i = 0 + x_3.toNat then (IntKind.i64.wrap ((↑(x_2.ls (0 + x_3.toNat)) : Int) - Int.ofNat 1)).toNat else x_2.ls i) → x_2.S i e = x_2.S i e) (by intros; rfl))] V.ok)))))))))))))))))))))))))))))))))))))))))))) V.ok))))))))))))))))))))))))) := by kernel_rfl


end Go.Proofs.Ytomaagmleafjeaa.Md

/- LevelsStacks: the conditions hold; the walk. -/
set_option linter.unusedVariables false
set_option linter.unusedSimpArgs false
set_option maxRecDepth 100000
namespace Go.Proofs.Ytomaagmleafjeaa.Md
open Go Go.RowKit Sx Cn Dc Ck Vc
theorem kLs_e {b : Int} : IntKind.i64.wrap (Int.ofNat 1 + IntKind.i64.wrap (b.tmod (Int.ofNat 4))) = kLs b := rfl
theorem kLs_bd {b : Int} (h : 0 ≤ b) : 1 ≤ kLs b ∧ kLs b ≤ 4 := by
  unfold kLs
  rw [Int.tmod_eq_emod_of_nonneg h, Int.ofNat_eq_natCast, w64 (n := b % ((4 : Nat) : Int)) (by omega), w64 (by omega)]
  omega
def yK (N D t : Int) : Ly := ⟨1, N, 1, 1, D, 1, 5, 6, 7, 8, t⟩
theorem yK_e {N D t : Int} : Ly.mk (Int.ofNat 1) N (Int.ofNat 1) (Int.ofNat 1) D (Int.ofNat 1) (Int.ofNat 5) (Int.ofNat 6) (Int.ofNat 7) (Int.ofNat 8) t = yK N D t := rfl
theorem Ws.tb {N D : Int} {n L : Nat} {m : Mm} {t : Int} {ls : Nat → Nat} {S : Nat → Nat → Int} (h : Ws (yW N D) n L m ls S) : Ws (yK N D t) n L m ls S := ⟨⟨h.wf.ok, h.wf.t, h.wf.B, h.wf.bit⟩, h.len, h.val, h.rng⟩
theorem Ws.bt {N D : Int} {n L : Nat} {m : Mm} {t : Int} {ls : Nat → Nat} {S : Nat → Nat → Int} (h : Ws (yK N D t) n L m ls S) : Ws (yW N D) n L m ls S := ⟨⟨h.wf.ok, h.wf.t, h.wf.B, h.wf.bit⟩, h.len, h.val, h.rng⟩
theorem Ws.congr {y : Ly} {n L : Nat} {m : Mm} {ls ls' : Nat → Nat} {S S' : Nat → Nat → Int} (h : Ws y n L m ls S) (hl : ∀ v, ls' v = ls v) (hS : ∀ v j, S' v j = S v j) : Ws y n L m ls' S' := by
  have e1 : ls' = ls := funext hl
  have e2 : S' = S := funext fun v => funext fun j => hS v j
  rw [e1, e2]
  exact h
theorem yK_qp {N D t : Int} {n : Nat} (h : 1 ≤ N ∧ N ≤ 5) (hD : 1 ≤ D ∧ D ≤ 4) (hn : 8 + N * (2 + D) ≤ n) : Qp (yK N D t) n N.toNat :=
  ⟨rfl, by show N = (N.toNat : Int); omega, by omega, by show (1 : Int) ≤ D ∧ D ≤ 64; omega, by show (0 : Int) ≤ 7 ∧ (7 : Int) < 8; omega, by show (8 : Int) ≤ 1000; omega, by show (8 : Int) + (N.toNat : Int) * (2 + D) ≤ n; rw [Int.toNat_of_nonneg (by omega)]; exact hn⟩
theorem ws_0 {N D : Int} {n L : Nat} (hD : 1 ≤ D) : Ws (yW N D) n L (Mm.mk (fun (e : Nat) => Int.ofNat 0) (Int.ofNat 0) (Int.ofNat 0) (Int.ofNat 0) (Int.ofNat 0) (Int.ofNat 0)) (fun _ => 0) (fun _ _ => Int.ofNat 0) :=
  ⟨⟨fun e => by show (0 : Int) ≤ 0 ∧ (0 : Int) ≤ 18446744073709551615; omega, fun v hv => ⟨Int.le_refl _, Int.le_refl _, by show (0 : Int) ≤ 0 + D; omega, by show (0 : Int) ≤ 1000000; omega⟩, ⟨Int.le_refl _, Int.pow_pos (by omega)⟩, fun v hv h => absurd h (Int.lt_irrefl _)⟩, fun v _ => rfl, fun v j _ h => absurd h (Nat.not_lt_zero _), fun v j _ h => absurd h (Nat.not_lt_zero _)⟩
theorem Ws.ls_le {y : Ly} {n L : Nat} {m : Mm} {ls : Nat → Nat} {S : Nat → Nat → Int} (h : Ws y n L m ls S) {v : Nat} (hv : v < L) : (ls v : Int) ≤ y.D := by
  have := h.wf.t v hv
  have := h.len v hv
  omega
section
variable {ls cp : Nat → Nat} {S : Nat → Nat → Int} {v c4 : Nat} {val : Int}
theorem q1 : ∀ e, (if 0 = 0 ∧ e = v then c4 else cp e) = if e = v then c4 else if e = v then 0 else cp e := fun e => by
  by_cases c : e = v
  · rw [if_pos ⟨rfl, c⟩, if_pos c]
  · rw [if_neg (fun h => c h.2), if_neg c, if_neg c]
theorem q2 (h4 : ls v + 1 ≤ c4) (h : ∀ u, ls u ≤ cp u) : ∀ i, (if 0 = 0 ∧ i = v then ls v + 1 else ls i) ≤ if i = v then c4 else if i = v then 0 else cp i := fun e => by
  by_cases c : e = v
  · rw [if_pos ⟨rfl, c⟩, if_pos c]; exact h4
  · rw [if_neg (fun h => c h.2), if_neg c, if_neg c]; exact h e
theorem q3 {A : Nat} : ∀ i, (if 0 = 0 ∧ i = v then A else ls i) ≤ if i = v then A else if i = v then 0 else ls i := fun e => by
  by_cases c : e = v
  · rw [if_pos ⟨rfl, c⟩, if_pos c]; exact Nat.le_refl _
  · rw [if_neg (fun h => c h.2), if_neg c, if_neg c]; exact Nat.le_refl _
theorem q4 : ∀ u j, (if u = v then if 0 = 0 ∧ j = ls v then val else S v j else S u j) = if u = v ∧ j = ls v then val else S u j := fun u j => by
  by_cases c : u = v
  · subst c
    rw [if_pos rfl]
    by_cases c2 : j = ls u
    · rw [if_pos ⟨rfl, c2⟩, if_pos ⟨rfl, c2⟩]
    · rw [if_neg (fun h => c2 h.2), if_neg (fun h => c2 h.2)]
  · rw [if_neg c, if_neg (fun h => c h.1)]
theorem q5 {A : Nat} : ∀ u, (if 0 = 0 ∧ u = v then A else ls u) = if u = v then A else ls u := fun u => by
  by_cases c : u = v
  · rw [if_pos ⟨rfl, c⟩, if_pos c]
  · rw [if_neg (fun h => c h.2), if_neg c]
theorem q6 : ∀ e, (if 0 = 0 ∧ e = v then v else e) = e := fun e => by
  by_cases c : e = v
  · rw [if_pos ⟨rfl, c⟩, c]
  · rw [if_neg (fun h => c h.2)]
theorem q7 : ∀ e, (if 0 = 0 ∧ e = v then cp v else cp e) = cp e := fun e => by
  by_cases c : e = v
  · rw [if_pos ⟨rfl, c⟩, c]
  · rw [if_neg (fun h => c h.2)]
theorem q8 {A : Nat} (h : ∀ u, ls u ≤ cp u) (hA : A ≤ ls v) : ∀ i, (if 0 = 0 ∧ i = v then A else ls i) ≤ cp i ∧ (if 0 = 0 ∧ i = v then A else ls i) ≤ ls i := fun e => by
  have := h e
  by_cases c : e = v
  · rw [if_pos ⟨rfl, c⟩]; subst c; omega
  · rw [if_neg (fun h => c h.2)]; omega
end
theorem br3 {c ls k : Int} (hc : c = 3) (hl : ls = k) (h : (!(c == Int.ofNat 3) == (ls == k)) = true) : False := by
  subst hc hl
  simp at h
theorem br0 {c ls k : Int} (hc : c = 0) (hl : ls < k) (h : (!(c == Int.ofNat 3) == (ls == k)) = true) : False := by
  subst hc
  have : (ls == k) = false := by simp; omega
  rw [this] at h
  exact absurd h (by decide)
theorem cne {c k : Int} (hc : c = k) (h : (c != k) = true) : False := by
  subst hc
  simp at h
theorem ceq {c k : Int} (hc : c = k) (h : (c == k) = false) : False := by
  subst hc
  simp at h
theorem c30 {c : Int} (hc : c = Int.ofNat 3) (h : (c == Int.ofNat 0) = true) : False := by
  subst hc
  exact absurd h (by decide)
theorem neg_bad {v : Nat} {I : Decidable ((v : Int) < Int.ofNat 0)} (h : @decide ((v : Int) < Int.ofNat 0) I = true) : False := by
  have := of_decide_eq_true h
  simp only [Int.ofNat_eq_natCast] at this
  omega
theorem pos_bad {j : Int} (hj : j < 0) {I : Decidable (j < Int.ofNat 0)} (h : @decide (j < Int.ofNat 0) I = false) : False := of_decide_eq_false h hj
theorem cn3 {c : Int} (hc : c = Int.ofNat 0) (h : (c != Int.ofNat 3) = false) : False := by
  subst hc
  exact absurd h (by decide)
section
variable {ls cp : Nat → Nat} {S : Nat → Nat → Int} {v c4 : Nat} {val : Int}
theorem q1' : ∀ e, (if e = v then c4 else cp e) = if e = v then c4 else if e = v then 0 else cp e := fun e => by
  by_cases c : e = v <;> simp [c]
theorem q2' (h4 : ls v + 1 ≤ c4) (h : ∀ u, ls u ≤ cp u) : ∀ i, (if i = v then ls v + 1 else ls i) ≤ if i = v then c4 else if i = v then 0 else cp i := fun e => by
  by_cases c : e = v
  · rw [if_pos c, if_pos c]; exact h4
  · rw [if_neg c, if_neg c, if_neg c]; exact h e
theorem q3' {A : Nat} : ∀ i, (if i = v then A else ls i) ≤ if i = v then A else if i = v then 0 else ls i := fun e => by
  by_cases c : e = v <;> simp [c]
theorem q4' : ∀ u j, (if u = v then if j = ls v then val else S v j else S u j) = if u = v ∧ j = ls v then val else S u j := fun u j => by
  by_cases c : u = v
  · subst c
    by_cases c2 : j = ls u <;> simp [c2]
  · simp [c]
theorem q6' : ∀ e, (if e = v then v else e) = e := fun e => by
  by_cases c : e = v <;> simp [c]
theorem q7' : ∀ e, (if e = v then cp v else cp e) = cp e := fun e => by
  by_cases c : e = v <;> simp [c]
theorem q8' {A : Nat} (h : ∀ u, ls u ≤ cp u) (hA : A ≤ ls v) : ∀ i, (if i = v then A else ls i) ≤ cp i ∧ (if i = v then A else ls i) ≤ ls i := fun e => by
  have := h e
  by_cases c : e = v
  · rw [if_pos c]; subst c; omega
  · rw [if_neg c]; omega
theorem q5' {A : Nat} : ∀ u, (if u = v then A else ls u) = if u = v then A else ls u := fun u => rfl
end
set_option maxHeartbeats 8000000 in
theorem vhLs {a b : Int} {g : Nat → Int} {len cap : Nat} (ha : 0 ≤ a ∧ a ≤ 255) (hb : 0 ≤ b ∧ b ≤ 255) : VHolds (verLs a b g len cap) := by
  constructor
  rw [verLs_eq]
  refine V.brI (fun _ => V.okI) fun hlen => ?_
  have hl : len ≤ 80 := by simp at hlen; omega
  have hN := nLb_bd ha.1
  have hD := kLs_bd hb.1
  simp only [nLb_e, kLs_e, yK_e]
  (repeat' first | with_reducible exact V.okI | with_reducible refine V.anyCfg ?_ | with_reducible refine V.anyMm ?_ | with_reducible refine V.anyInt ?_ | with_reducible refine V.anyNat ?_ | with_reducible refine V.anyCl' ?_ | with_reducible refine nN_h rfl ?_ | with_reducible refine V.needI ?_ ?_ | with_reducible intro _)
  all_goals first
    | (first | rfl | exact True.intro | exact ⟨u8_0, by decide⟩ | exact ⟨(1, 0, fun _ => 0), Nat.le_refl _⟩ | exact ⟨Nat.le_refl _, by assumption⟩ | exact Nat.zero_le _ | exact ⟨Nat.zero_le _, Nat.zero_le _⟩ | exact ⟨(_, _), is_cl _, Nat.le_refl _⟩ | exact err9 (by unfold okN; simp only [Int.ofNat_eq_natCast]; omega) rfl rfl rfl | decide)
    | exact err9 (by unfold okN; dsimp only; omega) rfl rfl rfl
    | exact ⟨(_, _), is_cl _, Nat.le_refl _⟩
    | omega
    | skip
  refine V.anyI fun q hq => ?_
  have hp0 : 0 ≤ nLb a * (2 + kLs b) := Int.mul_nonneg (by omega) (by omega)
  have hn : 8 + nLb a * (2 + kLs b) ≤ q.1 := by
    rw [hq]
    show _ ≤ ((ncN _ : Nat) : Int)
    unfold ncN ncI lT lQ
    dsimp only
    simp only [Int.ofNat_eq_natCast, Int.natCast_zero, Int.natCast_one, Int.one_mul]
    omega
  obtain ⟨n, t⟩ := q
  clear hq
  simp only at hn
  have hQ : Qp (yK (nLb a) (kLs b) t) n (nLb a).toNat := yK_qp hN hD hn
  (repeat' first | with_reducible exact V.okI | with_reducible refine V.anyCfg ?_ | with_reducible refine V.anyMm ?_ | with_reducible refine V.anyInt ?_ | with_reducible refine V.anyNat ?_ | with_reducible refine V.anyCl' ?_ | with_reducible refine nN_h rfl ?_ | with_reducible refine V.needI ?_ ?_ | with_reducible intro _)
  all_goals first
    | exact True.intro
    | omega
    | exact rfl
    | exact ⟨Nat.zero_le _, ws_0 hD.1, fun v hv => by decide, fun v => Nat.le_refl _⟩
    | exact fun _ => .inl rfl
    | exact .inl trivial
    | exact ⟨trivial, trivial⟩
    | exact fun _ => ⟨Nat.le_refl _, Nat.le_refl _⟩
    | (simp only [Int.ofNat_eq_natCast, Int.natCast_zero]; omega)
    | skip
  refine V.anyI fun x hx => ?_
  obtain ⟨o1, o2, o3, o4⟩ := hx
  refine V.brI (fun hi => ?_) fun hi => V.okI
  have hi : x.i < len := by have := of_decide_eq_true hi; omega
  have ei : IntKind.i64.wrap ((x.i : Int) + Int.ofNat 1) = ((x.i + 1 : Nat) : Int) := wnat (by omega)
  simp only [ei, Mm.eta, Int.toNat_natCast, Nat.zero_add]
  have w0 : Ws (yK (nLb a) (kLs b) t) n (nLb a).toNat x.m x.ls x.S := o2.tb
  (repeat' first | with_reducible exact V.okI | with_reducible refine V.anyCfg ?_ | with_reducible refine V.anyMm ?_ | with_reducible refine V.anyInt ?_ | with_reducible refine V.anyNat ?_ | with_reducible refine V.anyCl' ?_ | with_reducible refine nN_h rfl ?_ | with_reducible refine V.needI ?_ ?_ | with_reducible intro _)
  all_goals try (first | omega | (simp only [Int.ofNat_eq_natCast, Int.natCast_zero, Int.natCast_one]; omega))
  refine V.brI (fun hg => ?_) fun hg => ?_
  · have hg : 0 < g x.i := of_decide_eq_true hg
    obtain ⟨v, hv, hvl⟩ : ∃ v : Nat, (g x.i).tmod (nLb a) = v ∧ v < (nLb a).toNat := by
      refine ⟨((g x.i).tmod (nLb a)).toNat, ?_⟩
      rw [Int.tmod_eq_emod_of_nonneg (by omega)]
      have h1 := Int.emod_nonneg (g x.i) (show nLb a ≠ 0 by omega)
      have h2 := Int.emod_lt_of_pos (g x.i) (show 0 < nLb a by omega)
      omega
    simp only [hv, Int.toNat_natCast]
    have hp := push_ws (M := 30) (v := v) (val := x.i) hQ w0 hvl (by omega) (by omega) (by omega) o3
    have hw := (push_wf (M := 30) (v := v) (val := x.i) hQ w0.wf hvl (by omega) (by omega) (by omega) o3).2
    have hls := w0.ls_le hvl
    (repeat' first | with_reducible exact V.okI | with_reducible refine V.anyCfg ?_ | with_reducible refine V.anyMm ?_ | with_reducible refine V.anyInt ?_ | with_reducible refine V.anyNat ?_ | with_reducible refine V.anyCl' ?_ | with_reducible refine nN_h rfl ?_ | with_reducible refine V.needI ?_ ?_ | with_reducible intro _)
    all_goals first
      | exact ⟨⟨hQ.small, hQ.okAt⟩, by omega⟩
      | exact ⟨⟨hQ.small, hQ.okAt⟩, by omega, w0.wf.ok⟩
      | exact rfl
      | omega
      | (simp only [Int.ofNat_eq_natCast, Int.natCast_zero, Int.natCast_one]; omega)
      | skip
    refine V.anyI fun R hR => ?_
    rw [← show R = puR (yK (nLb a) (kLs b) t) n 0 v (x.i : Int) 30 x.m from hR] at hp hw
    clear hR
    have hw0 := True.intro
    rcases hp with ⟨p1, p2, p3⟩ | ⟨p1, p2, p3⟩
    · have p1 : (x.ls v : Int) = kLs b := p1
      have p2 : R.c = Int.ofNat 3 := p2
      clear hw0
      (repeat' first | with_reducible exact V.okI | with_reducible refine V.brT ?_ | with_reducible refine V.brF ?_ | with_reducible refine V.brI ?_ ?_ | with_reducible refine V.anyI ?_ | with_reducible refine nN_h rfl ?_ | with_reducible refine V.needI ?_ ?_ | with_reducible intro _)
      all_goals first
        | with_reducible exact (br3 p2 p1 (by assumption)).elim
        | with_reducible exact (cne p2 (by assumption)).elim
        | with_reducible exact (c30 p2 (by assumption)).elim
        | exact ⟨by omega, p3.bt, hw, o4⟩
        | exact True.intro
        | exact nn (by omega)
        | omega
        | exact .inl trivial
        | exact ⟨o4 _, Nat.le_refl _⟩
        | (simp only [Int.ofNat_eq_natCast, Int.natCast_zero]; omega)
        | skip
    · have p1 : (x.ls v : Int) < kLs b := p1
      have p2 : R.c = Int.ofNat 0 := p2
      (repeat' first | with_reducible exact V.okI | with_reducible refine V.brT ?_ | with_reducible refine V.brF ?_ | with_reducible refine V.brI ?_ ?_ | with_reducible refine V.anyI ?_ | with_reducible refine nN_h rfl ?_ | with_reducible refine V.needI ?_ ?_ | with_reducible intro _)
      all_goals first
        | with_reducible exact (br0 p2 p1 (by assumption)).elim
        | with_reducible exact (cne p2 (by assumption)).elim
        | with_reducible exact (ceq p2 (by assumption)).elim
        | with_reducible exact (cn3 p2 (by assumption)).elim
        | omega
        | exact True.intro
        | exact nn (by omega)
        | (simp only [Int.ofNat_eq_natCast, Int.natCast_zero]; omega)
        | exact ⟨Nat.le_refl _, True.intro⟩
        | exact ⟨True.intro, fun i e h0 h1 h2 => h1 ⟨h0.1, h2⟩⟩
        | (simp only [true_and, true_or]; done)
        | (simp only [true_and, true_or]; first | exact q1' _ | exact q2' (by omega) o4 _ | exact ⟨q2' (by omega) o4 _, q3' _⟩ | exact ⟨by omega, p3.bt.congr q5' q4', hw, q2' (by omega) o4⟩)
        | skip
  · have hp := pop_ws (M := 200) hQ w0 (by omega) o3
    have hw := (pop_wf (M := 200) hQ w0.wf (by omega) o3).2.1
    (repeat' first | with_reducible exact V.okI | with_reducible refine V.anyCfg ?_ | with_reducible refine V.anyMm ?_ | with_reducible refine V.anyInt ?_ | with_reducible refine V.anyNat ?_ | with_reducible refine V.anyCl' ?_ | with_reducible refine nN_h rfl ?_ | with_reducible refine V.needI ?_ ?_ | with_reducible intro _)
    all_goals first
      | exact ⟨by rw [Int.ofNat_eq_natCast, w64 (by omega)]; omega, by rw [Int.ofNat_eq_natCast, w64 (by omega)]; omega, fun u h1 h2 => absurd h1 (by rw [Int.ofNat_eq_natCast, w64 (by omega)]; omega)⟩
      | omega
      | skip
    rename_i j hj
    obtain ⟨j1, j2, j3⟩ := hj
    have j1 : -1 ≤ j := j1
    refine V.brI (fun hc => ?_) fun hc => ?_
    · have hc : 0 ≤ j := of_decide_eq_true hc
      obtain ⟨v, rfl⟩ : ∃ v : Nat, j = v := ⟨j.toNat, by omega⟩
      have ej : IntKind.i64.wrap ((v : Int) - Int.ofNat 1) = (v : Int) - 1 := by rw [Int.ofNat_eq_natCast, w64 (by omega)]; rfl
      have hvl : v < (nLb a).toNat := by omega
      simp only [ej, Int.toNat_natCast]
      (repeat' first | with_reducible exact V.okI | with_reducible refine V.anyCfg ?_ | with_reducible refine V.anyMm ?_ | with_reducible refine V.anyInt ?_ | with_reducible refine V.anyNat ?_ | with_reducible refine V.anyCl' ?_ | with_reducible refine nN_h rfl ?_ | with_reducible refine V.needI ?_ ?_ | with_reducible intro _)
      all_goals first
        | omega
        | (simp only [Int.ofNat_eq_natCast, Int.natCast_zero]; omega)
        | skip
      refine V.brI (fun h0 => ?_) fun h0 => ?_
      · have h0 : x.ls v = 0 := by simpa using h0
        (repeat' first | with_reducible exact V.okI | with_reducible refine V.brT ?_ | with_reducible refine V.brF ?_ | with_reducible refine V.brI ?_ ?_ | with_reducible refine V.anyI ?_ | with_reducible refine nN_h rfl ?_ | with_reducible refine V.needI ?_ ?_ | with_reducible intro _)
        all_goals first
          | omega
          | exact ⟨by simp only [Int.ofNat_eq_natCast]; omega, by omega, fun u h1 h2 => if c : u = v then c ▸ h0 else j3 u (by omega) h2⟩
          | (simp only [Int.ofNat_eq_natCast]; omega)
          | skip
      · have h0 : 0 < x.ls v := Nat.pos_of_ne_zero (by simpa using h0)
        (repeat' first | with_reducible exact V.okI | with_reducible refine V.anyCfg ?_ | with_reducible refine V.anyMm ?_ | with_reducible refine V.anyInt ?_ | with_reducible refine V.anyNat ?_ | with_reducible refine V.anyCl' ?_ | with_reducible refine nN_h rfl ?_ | with_reducible refine V.needI ?_ ?_ | with_reducible intro _)
        all_goals first
          | exact ⟨⟨hQ.small, hQ.okAt⟩, by omega⟩
          | exact ⟨⟨hQ.small, hQ.okAt⟩, by omega, w0.wf.ok⟩
          | exact rfl
          | omega
          | (simp only [Int.ofNat_eq_natCast, Int.natCast_zero, Int.natCast_one]; omega)
          | skip
        refine V.anyI fun R hR => ?_
        rw [← show R = popR (yK (nLb a) (kLs b) t) n 0 200 x.m from hR] at hp hw
        clear hR
        have hw : ∀ u, u < (nLb a).toNat → R.m.g (Tq (yK (nLb a) (kLs b) t) u + 1).toNat ≤ ((x.i + 1 : Nat) : Int) := fun u hu => by have := hw u hu; omega
        rcases hp with ⟨p1, p2, p3⟩ | ⟨p1, u, q1, q2, q3, q4, q5⟩
        · exact absurd (p2 v hvl) (by omega)
        · obtain rfl : u = v := by
            rcases Nat.lt_trichotomy u v with c | c | c
            · exact absurd (q3 v c hvl) (by omega)
            · exact c
            · exact absurd (j3 u (by omega) q1) (by omega)
          have p1 : R.c = Int.ofNat 1 := p1
          have el : IntKind.i64.wrap ((x.ls u : Int) - Int.ofNat 1) = ((x.ls u - 1 : Nat) : Int) := by
            have := w0.ls_le hvl
            have hD : (yK (nLb a) (kLs b) t).D = kLs b := rfl
            rw [Int.ofNat_eq_natCast, w64 (by omega)]; omega
          simp only [el, Int.toNat_natCast]
          (repeat' first | with_reducible exact V.okI | with_reducible refine V.brT ?_ | with_reducible refine V.brF ?_ | with_reducible refine V.brI ?_ ?_ | with_reducible refine V.anyI ?_ | with_reducible refine nN_h rfl ?_ | with_reducible refine V.needI ?_ ?_ | with_reducible intro _)
          all_goals first
            | with_reducible exact (neg_bad (by assumption)).elim
            | with_reducible exact (cne p1 (by assumption)).elim
            | with_reducible exact (cne q4 (by assumption)).elim
            | omega
            | exact True.intro
            | exact nn (by omega)
            | exact .inl trivial
            | (simp only [Int.ofNat_eq_natCast, Int.natCast_zero]; omega)
            | (have := o4 u; simp only [Int.ofNat_eq_natCast, Int.natCast_zero]; omega)
            | (simp only [true_and, true_or]; done)
            | (simp only [true_and, true_or]; first | exact q6' _ | exact q7' _ | exact q8' o4 (by omega) _ | exact ⟨by omega, q5.bt, hw, fun e => (q8' o4 (by omega) e).1⟩)
            | skip
    · have hc : j < 0 := by simpa using hc
      (repeat' first | with_reducible exact V.okI | with_reducible refine V.anyCfg ?_ | with_reducible refine V.anyMm ?_ | with_reducible refine V.anyInt ?_ | with_reducible refine V.anyNat ?_ | with_reducible refine V.anyCl' ?_ | with_reducible refine nN_h rfl ?_ | with_reducible refine V.needI ?_ ?_ | with_reducible intro _)
      all_goals first
        | exact ⟨⟨hQ.small, hQ.okAt⟩, by omega⟩
        | exact ⟨⟨hQ.small, hQ.okAt⟩, by omega, w0.wf.ok⟩
        | exact rfl
        | omega
        | (simp only [Int.ofNat_eq_natCast, Int.natCast_zero, Int.natCast_one]; omega)
        | skip
      refine V.anyI fun R hR => ?_
      rw [← show R = popR (yK (nLb a) (kLs b) t) n 0 200 x.m from hR] at hp hw
      clear hR
      have hw : ∀ u, u < (nLb a).toNat → R.m.g (Tq (yK (nLb a) (kLs b) t) u + 1).toNat ≤ ((x.i + 1 : Nat) : Int) := fun u hu => by have := hw u hu; omega
      have hz : ∀ u, u < (nLb a).toNat → x.ls u = 0 := fun u hu => j3 u (by omega) hu
      rcases hp with ⟨p1, p2, p3⟩ | ⟨p1, u, q1, q2, q3, q4, q5⟩
      · have p1 : R.c = Int.ofNat 2 := p1
        (repeat' first | with_reducible exact V.okI | with_reducible refine V.brT ?_ | with_reducible refine V.brF ?_ | with_reducible refine V.brI ?_ ?_ | with_reducible refine V.anyI ?_ | with_reducible refine nN_h rfl ?_ | with_reducible refine V.needI ?_ ?_ | with_reducible intro _)
        all_goals first
          | with_reducible exact (cne p1 (by assumption)).elim
          | with_reducible exact (pos_bad hc (by assumption)).elim
          | exact ⟨by omega, p3.bt, hw, o4⟩
          | omega
          | exact True.intro
          | exact .inl trivial
          | exact ⟨o4 _, Nat.le_refl _⟩
          | (simp only [Int.ofNat_eq_natCast, Int.natCast_zero]; omega)
          | skip
      · exact absurd (hz u q1) (by omega)
theorem walkLs (a b : Int) (ad : Option Addr) (len cap : Nat) (g : Nat → Int) (W : World) (ha : (Lit.int .u8 a).wf = true) (hb : (Lit.int .u8 b).wf = true) (h : IsInts .i64 W ad len cap g) :
    Calls P 4 #[.int .u8 a, .int .u8 b, .slice ad len cap] W fun e w' => e = .returned (.bool true) ∧ Below W.heap.size W w' := by
  refine calls_yesV (vs := [.int .u8 a, .int .u8 b, .slice ad len cap]) conLb_ok (ρ := fun k i => if k = 0 ∧ i = 0 then addr0 ad else none) (vhLs (g := g) (u8i ha) (u8i hb)) (views_inv fun k b hk => ?_) ⟨fun _ _ => rfl, fun _ _ => rfl, h.val (by simp) ⟨Nat.le_of_ble_eq_true rfl, trivial⟩, trivial⟩
  rw [find_cons] at hk
  split at hk
  · rename_i e; subst e
    cases hk
    exact ⟨rfl, by decide, h.sat (by simp)⟩
  · cases hk
end Go.Proofs.Ytomaagmleafjeaa.Md
