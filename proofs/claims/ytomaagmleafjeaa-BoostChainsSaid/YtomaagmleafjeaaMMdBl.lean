/- BoostChains: the conditions, printed by program. -/
import Derived.Test.YtomaagmleafjeaaMMdBlD
import Derived.Test.YtomaagmleafjeaaMW
import Derived.Test.YtomaagmleafjeaaMMdBr
set_option linter.unusedVariables false
set_option linter.unusedSimpArgs false
set_option linter.unusedVariables false
set_option maxRecDepth 100000
namespace Go.Proofs.Ytomaagmleafjeaa.Md
open Go Go.RowKit Sx Cn Dc Ck Vc

set_option maxHeartbeats 8000000 in
theorem verBl_eq (g : Nat → Int) (len cap : Nat) (to : Int) (rd : Bool) : verBl g len cap to rd =
  V.need ((U8 0 fun (x : Nat) => Int.ofNat 0) ∧ 0 ≤ 9)
    (V.need (∃ (x : Nat × Nat × (Nat → Nat)), 1 ≤ x.fst)
    (V.any (Nat × Nat × (Nat → Nat)) (fun (x : Nat × Nat × (Nat → Nat)) => 1 ≤ x.fst) fun (x : Nat × Nat × (Nat → Nat)) => nN [(1, .eqI 1 1), (1, .eqI 3 3), (1, .eqI 1 1), (1, .eqI 8 8), (1, .eqI 4 4), (2, .eqI 1 1), (1, .eqI 0 0), (1, .eqI 1 1), (1, .eq 1 1), (1, .pf (x.fst = x.fst) rfl), (1, .eq 0 0), (1, .pf (x.snd.fst = x.snd.fst) rfl), (1, .le 1 1)]
    (V.need (1 ≤ 1 ∧ 1 ≤ x.fst)
    (nN [(1, .pf (∀ (i e : Nat), i = 0 ∧ e < 1 → e = e) (by intros; rfl)), (1, .pf (∀ (i e : Nat), i = 0 ∧ e < 1 → 0 = 0) (by intros; rfl)), (1, .pf (∀ (i e : Nat), i = 0 ∧ e < 1 → x.snd.snd e = x.snd.snd e) (by intros; rfl)), (1, .le 1 1)]
    (V.need (0 ≤ 0 ∧ 0 ≤ x.snd.fst)
    (nN [(1, .pf (∀ (i e : Nat), i = 0 ∧ e < 0 → uP (fun (x : Nat) => Int.ofNat 0) 0 e = uP (fun (x : Nat) => Int.ofNat 0) 0 e) (by intros; rfl)), (1, .pf (∀ (i e : Nat), i = 0 ∧ e < 0 → uL (fun (x : Nat) => Int.ofNat 0) 0 e = uL (fun (x : Nat) => Int.ofNat 0) 0 e) (by intros; rfl)), (1, .pf (∀ (i e : Nat), i = 0 ∧ e < 0 → uD (fun (x : Nat) => Int.ofNat 0) 0 e = uD (fun (x : Nat) => Int.ofNat 0) 0 e) (by intros; rfl))]
    (V.need (∀ (i : Nat), i < 1 → 0 ≤ gd 1 (fun (x : Nat) => 0) i ∧ 0 ≤ gd 1 (fun (e : Nat) => x.snd.snd e) i)
    (nN [(1, .pf (∀ (i e : Nat), i < 1 ∧ e < 0 → cO (fun (x : Nat) => Int.ofNat 0) 0 i e = cO (fun (x : Nat) => Int.ofNat 0) 0 i e) (by intros; rfl)), (1, .pf (∀ (i e : Nat), i < 1 ∧ e < 0 → cA (fun (x : Nat) => Int.ofNat 0) 0 i e = cA (fun (x : Nat) => Int.ofNat 0) 0 i e) (by intros; rfl)), (1, .pf (∀ (i e : Nat), i < 1 ∧ e < 0 → cB (fun (x : Nat) => Int.ofNat 0) 0 i e = cB (fun (x : Nat) => Int.ofNat 0) 0 i e) (by intros; rfl))]
    (V.need (errE (Cf.mk (Int.ofNat 1) (Int.ofNat 3) (Int.ofNat 1) (Int.ofNat 8) (Int.ofNat 4) (Int.ofNat 1) (Int.ofNat 1) (Int.ofNat 0) (Int.ofNat 1) 1 x.fst 0 x.snd.fst (fun (e : Nat) => 0) (fun (e : Nat) => x.snd.snd e) (fun (i e : Nat) => cO (fun (x : Nat) => Int.ofNat 0) 0 i e) (fun (i e : Nat) => cA (fun (x : Nat) => Int.ofNat 0) 0 i e) (fun (i e : Nat) => cB (fun (x : Nat) => Int.ofNat 0) 0 i e) (fun (e : Nat) => uP (fun (x : Nat) => Int.ofNat 0) 0 e) (fun (e : Nat) => uL (fun (x : Nat) => Int.ofNat 0) 0 e) fun (e : Nat) => uD (fun (x : Nat) => Int.ofNat 0) 0 e) = Int.ofNat 0)
    (V.need (∃ (x_1 : Cf × Nat), IsCl (Cf.mk (Int.ofNat 1) (Int.ofNat 3) (Int.ofNat 1) (Int.ofNat 8) (Int.ofNat 4) (Int.ofNat 1) (Int.ofNat 1) (Int.ofNat 0) (Int.ofNat 1) 1 x.fst 0 x.snd.fst (fun (e : Nat) => 0) (fun (e : Nat) => x.snd.snd e) (fun (i e : Nat) => cO (fun (x : Nat) => Int.ofNat 0) 0 i e) (fun (i e : Nat) => cA (fun (x : Nat) => Int.ofNat 0) 0 i e) (fun (i e : Nat) => cB (fun (x : Nat) => Int.ofNat 0) 0 i e) (fun (e : Nat) => uP (fun (x : Nat) => Int.ofNat 0) 0 e) (fun (e : Nat) => uL (fun (x : Nat) => Int.ofNat 0) 0 e) fun (e : Nat) => uD (fun (x : Nat) => Int.ofNat 0) 0 e) x_1.fst ∧ (Int.ofNat 8).toNat ≤ x_1.snd)
    (V.any (Cf × Nat) (fun (x_1 : Cf × Nat) => IsCl (Cf.mk (Int.ofNat 1) (Int.ofNat 3) (Int.ofNat 1) (Int.ofNat 8) (Int.ofNat 4) (Int.ofNat 1) (Int.ofNat 1) (Int.ofNat 0) (Int.ofNat 1) 1 x.fst 0 x.snd.fst (fun (e : Nat) => 0) (fun (e : Nat) => x.snd.snd e) (fun (i e : Nat) => cO (fun (x : Nat) => Int.ofNat 0) 0 i e) (fun (i e : Nat) => cA (fun (x : Nat) => Int.ofNat 0) 0 i e) (fun (i e : Nat) => cB (fun (x : Nat) => Int.ofNat 0) 0 i e) (fun (e : Nat) => uP (fun (x : Nat) => Int.ofNat 0) 0 e) (fun (e : Nat) => uL (fun (x : Nat) => Int.ofNat 0) 0 e) fun (e : Nat) => uD (fun (x : Nat) => Int.ofNat 0) 0 e) x_1.fst ∧ (Int.ofNat 8).toNat ≤ x_1.snd) fun (x_1 : Cf × Nat) => V.need True
    (nN [(1, .neI 3 0)]
    (V.need (0 ≤ nBl len ∧ 0 = rais (to.tmod 3) (bfB g len) 0 ∧ (∀ (u : Nat), Int.ofNat 0 = if u < 0 then bfB g len u else Int.ofNat 0) ∧ ∀ (e : Nat), Int.ofNat 0 = mB (nBl len) (bfB g len) 0 e)
    (V.need (Int.ofNat 0 = (↑0 : Int))
    (V.need (Int.ofNat 0 = (↑0 : Int))
    (nN [(5, .eqI 0 0), (1, .eq 66 66), (1, .le 66 66), (1, .pf (∀ (e : Nat), e < 66 → Int.ofNat 0 = Int.ofNat 0) (by intros; rfl)), (1, .eq 8 8), (1, .le 8 8), (1, .pf (∀ (e : Nat), e < 8 → Int.ofNat 0 = Int.ofNat 0) (by intros; rfl))]
    (V.any XBl (okBl (nBl len) (to.tmod 3) (bfB g len)) fun (x_2 : XBl) => V.br (decide ((↑x_2.i : Int) < IntKind.i64.wrap (Int.ofNat 1 + min (↑len : Int) (Int.ofNat 7))))
    (V.br (decide ((↑x_2.i : Int) < (↑len : Int)))
    (V.need (Int.ofNat 0 ≤ (↑x_2.i : Int) ∧ (↑x_2.i : Int) < (↑len : Int))
    (V.need (0 < 1 ∧ 0 + (↑x_2.i : Int).toNat < len)
    (V.need (0 < 1 ∧ 0 + (↑x_2.i : Int).toNat < len)
    (nN [(1, .neI 3 0)]
    (V.need (Int.ofNat 0 ≤ (↑x_2.i : Int) ∧ (↑x_2.i : Int) < (↑8 : Int))
    (V.need (0 + (↑x_2.i : Int).toNat < 8)
    (V.need (0 + (↑x_2.i : Int).toNat < 8)
    (V.need (Int.ofNat 0 ≤ (↑x_2.i : Int) ∧ (↑x_2.i : Int) < (↑8 : Int))
    (V.need (0 + (↑x_2.i : Int).toNat < 8)
    (V.need (0 + (↑x_2.i : Int).toNat < 8)
    (V.br (decide ((if 0 = 0 ∧ 0 + (↑x_2.i : Int).toNat = 0 + (↑x_2.i : Int).toNat then IntKind.i64.wrap ((g (0 + (↑x_2.i : Int).toNat)).tmod (Int.ofNat 3)) else x_2.a (0 + (↑x_2.i : Int).toNat)) < IntKind.i64.wrap (to.tmod (Int.ofNat 3))))
    (nN [(14, .lt2 0 1 0 1), (1, .eqI 1 1), (1, .eqI 3 3), (1, .eqI 1 1), (1, .eqI 8 8), (1, .eqI 4 4), (2, .eqI 1 1), (1, .eqI 0 0), (1, .eqI 1 1), (1, .eq 1 1), (1, .pf (x.fst = x.fst) rfl), (1, .eq 0 0), (1, .pf (x.snd.fst = x.snd.fst) rfl), (1, .pf ((↑x_2.i : Int) = (↑x_2.i : Int)) rfl), (1, .eqI 1 1), (1, .le 1 1), (1, .pf (∀ (i : Nat), i < 1 → 1 ≤ 1) (by intros; exact Nat.le_refl _)), (1, .pf (∀ (i e : Nat), i < 1 ∧ e < 1 → e = e) (by intros; rfl)), (1, .pf (∀ (i e : Nat), i < 1 ∧ e < 1 → 0 = 0) (by intros; rfl)), (1, .pf (∀ (i e : Nat), i < 1 ∧ e < 1 → x.snd.snd e = x.snd.snd e) (by intros; rfl)), (1, .le 1 1), (1, .pf (∀ (i : Nat), i < 1 → 0 ≤ 0) (by intros; exact Nat.le_refl _)), (1, .pf (∀ (i e : Nat), i < 1 ∧ e < 0 → uP (fun (x : Nat) => Int.ofNat 0) 0 e = uP (fun (x : Nat) => Int.ofNat 0) 0 e) (by intros; rfl)), (1, .pf (∀ (i e : Nat), i < 1 ∧ e < 0 → uL (fun (x : Nat) => Int.ofNat 0) 0 e = uL (fun (x : Nat) => Int.ofNat 0) 0 e) (by intros; rfl)), (1, .pf (∀ (i e : Nat), i < 1 ∧ e < 0 → uD (fun (x : Nat) => Int.ofNat 0) 0 e = uD (fun (x : Nat) => Int.ofNat 0) 0 e) (by intros; rfl))]
    (V.need (∀ (i : Nat), i < 1 → 0 ≤ gd 1 (fun (x : Nat) => 0) i ∧ 0 ≤ gd 1 (fun (e : Nat) => x.snd.snd e) i)
    (nN [(1, .pf (∀ (i e : Nat), i < 1 ∧ e < 0 → cO (fun (x : Nat) => Int.ofNat 0) 0 i e = cO (fun (x : Nat) => Int.ofNat 0) 0 i e) (by intros; rfl)), (1, .pf (∀ (i e : Nat), i < 1 ∧ e < 0 → cA (fun (x : Nat) => Int.ofNat 0) 0 i e = cA (fun (x : Nat) => Int.ofNat 0) 0 i e) (by intros; rfl)), (1, .pf (∀ (i e : Nat), i < 1 ∧ e < 0 → cB (fun (x : Nat) => Int.ofNat 0) 0 i e = cB (fun (x : Nat) => Int.ofNat 0) 0 i e) (by intros; rfl))]
    (V.need (preTk (Cf.mk (Int.ofNat 1) (Int.ofNat 3) (Int.ofNat 1) (Int.ofNat 8) (Int.ofNat 4) (Int.ofNat 1) (Int.ofNat 1) (Int.ofNat 0) (Int.ofNat 1) 1 x.fst 0 x.snd.fst (fun (e : Nat) => 0) (fun (e : Nat) => x.snd.snd e) (fun (i e : Nat) => cO (fun (x : Nat) => Int.ofNat 0) 0 i e) (fun (i e : Nat) => cA (fun (x : Nat) => Int.ofNat 0) 0 i e) (fun (i e : Nat) => cB (fun (x : Nat) => Int.ofNat 0) 0 i e) (fun (e : Nat) => uP (fun (x : Nat) => Int.ofNat 0) 0 e) (fun (e : Nat) => uL (fun (x : Nat) => Int.ofNat 0) 0 e) fun (e : Nat) => uD (fun (x : Nat) => Int.ofNat 0) 0 e) (↑x_2.i : Int) (Int.ofNat 1))
    (nN [(1, .pf (∃ (x_3 : Int), x_3 = lT (Cf.mk (Int.ofNat 1) (Int.ofNat 3) (Int.ofNat 1) (Int.ofNat 8) (Int.ofNat 4) (Int.ofNat 1) (Int.ofNat 1) (Int.ofNat 0) (Int.ofNat 1) 1 x.fst 0 x.snd.fst (fun (e : Nat) => 0) (fun (e : Nat) => x.snd.snd e) (fun (i e : Nat) => cO (fun (x : Nat) => Int.ofNat 0) 0 i e) (fun (i e : Nat) => cA (fun (x : Nat) => Int.ofNat 0) 0 i e) (fun (i e : Nat) => cB (fun (x : Nat) => Int.ofNat 0) 0 i e) (fun (e : Nat) => uP (fun (x : Nat) => Int.ofNat 0) 0 e) (fun (e : Nat) => uL (fun (x : Nat) => Int.ofNat 0) 0 e) fun (e : Nat) => uD (fun (x : Nat) => Int.ofNat 0) 0 e) + (↑x_2.i : Int) * Int.ofNat 5 + Int.ofNat 1) ⟨_, rfl⟩)]
    (V.any Int (fun (r : Int) => r = lT (Cf.mk (Int.ofNat 1) (Int.ofNat 3) (Int.ofNat 1) (Int.ofNat 8) (Int.ofNat 4) (Int.ofNat 1) (Int.ofNat 1) (Int.ofNat 0) (Int.ofNat 1) 1 x.fst 0 x.snd.fst (fun (e : Nat) => 0) (fun (e : Nat) => x.snd.snd e) (fun (i e : Nat) => cO (fun (x : Nat) => Int.ofNat 0) 0 i e) (fun (i e : Nat) => cA (fun (x : Nat) => Int.ofNat 0) 0 i e) (fun (i e : Nat) => cB (fun (x : Nat) => Int.ofNat 0) 0 i e) (fun (e : Nat) => uP (fun (x : Nat) => Int.ofNat 0) 0 e) (fun (e : Nat) => uL (fun (x : Nat) => Int.ofNat 0) 0 e) fun (e : Nat) => uD (fun (x : Nat) => Int.ofNat 0) 0 e) + (↑x_2.i : Int) * Int.ofNat 5 + Int.ofNat 1) fun (x_3 : Int) => V.need (Int.ofNat 0 ≤ (↑x_2.i : Int) ∧ (↑x_2.i : Int) < (↑8 : Int))
    (V.need (0 < 1 ∧ 0 + (↑x_2.i : Int).toNat < 8)
    (V.need (0 < 1 ∧ 0 + (↑x_2.i : Int).toNat < 8)
    (nN [(1, .pf (x_3 = x_3) rfl)]
    (V.need (IntKind.u64.wrap (if 0 = 0 ∧ 0 + (↑x_2.i : Int).toNat = 0 + (↑x_2.i : Int).toNat then IntKind.i64.wrap ((g (0 + (↑x_2.i : Int).toNat)).tmod (Int.ofNat 3)) else x_2.a (0 + (↑x_2.i : Int).toNat)) = IntKind.u64.wrap (if 0 = 0 ∧ 0 + (↑x_2.i : Int).toNat = 0 + (↑x_2.i : Int).toNat then IntKind.i64.wrap ((g (0 + (↑x_2.i : Int).toNat)).tmod (Int.ofNat 3)) else x_2.a (0 + (↑x_2.i : Int).toNat)))
    (nN [(1, .pf (x_2.m.lk = x_2.m.lk) rfl), (1, .pf (x_2.m.lc = x_2.m.lc) rfl), (1, .pf (x_2.m.lo = x_2.m.lo) rfl), (1, .pf (x_2.m.ln = x_2.m.ln) rfl), (1, .pf (x_2.m.ct = x_2.m.ct) rfl), (1, .eq 66 66), (1, .le 66 66), (1, .pf (∀ (e : Nat), e < 66 → x_2.m.g e = x_2.m.g e) (by intros; rfl))]
    (V.need (∃ (x : Mm), x = (Mm.mk (fun (e : Nat) => x_2.m.g e) x_2.m.lk x_2.m.lc x_2.m.lo x_2.m.ln x_2.m.ct).acc 66 (Int.ofNat 2) x_3 (IntKind.u64.wrap (if 0 = 0 ∧ 0 + (↑x_2.i : Int).toNat = 0 + (↑x_2.i : Int).toNat then IntKind.i64.wrap ((g (0 + (↑x_2.i : Int).toNat)).tmod (Int.ofNat 3)) else x_2.a (0 + (↑x_2.i : Int).toNat))))
    (V.any Mm (fun (m' : Mm) => m' = (Mm.mk (fun (e : Nat) => x_2.m.g e) x_2.m.lk x_2.m.lc x_2.m.lo x_2.m.ln x_2.m.ct).acc 66 (Int.ofNat 2) x_3 (IntKind.u64.wrap (if 0 = 0 ∧ 0 + (↑x_2.i : Int).toNat = 0 + (↑x_2.i : Int).toNat then IntKind.i64.wrap ((g (0 + (↑x_2.i : Int).toNat)).tmod (Int.ofNat 3)) else x_2.a (0 + (↑x_2.i : Int).toNat)))) fun (x_4 : Mm) => nN [(14, .lt2 0 1 0 1), (1, .eqI 1 1), (1, .eqI 3 3), (1, .eqI 1 1), (1, .eqI 8 8), (1, .eqI 4 4), (2, .eqI 1 1), (1, .eqI 0 0), (1, .eqI 1 1), (1, .eq 1 1), (1, .pf (x.fst = x.fst) rfl), (1, .eq 0 0), (1, .pf (x.snd.fst = x.snd.fst) rfl), (1, .pf ((↑x_2.i : Int) = (↑x_2.i : Int)) rfl), (1, .eqI 0 0), (1, .le 1 1), (1, .pf (∀ (i : Nat), i < 1 → 1 ≤ 1) (by intros; exact Nat.le_refl _)), (1, .pf (∀ (i e : Nat), i < 1 ∧ e < 1 → e = e) (by intros; rfl)), (1, .pf (∀ (i e : Nat), i < 1 ∧ e < 1 → 0 = 0) (by intros; rfl)), (1, .pf (∀ (i e : Nat), i < 1 ∧ e < 1 → x.snd.snd e = x.snd.snd e) (by intros; rfl)), (1, .le 1 1), (1, .pf (∀ (i : Nat), i < 1 → 0 ≤ 0) (by intros; exact Nat.le_refl _)), (1, .pf (∀ (i e : Nat), i < 1 ∧ e < 0 → uP (fun (x : Nat) => Int.ofNat 0) 0 e = uP (fun (x : Nat) => Int.ofNat 0) 0 e) (by intros; rfl)), (1, .pf (∀ (i e : Nat), i < 1 ∧ e < 0 → uL (fun (x : Nat) => Int.ofNat 0) 0 e = uL (fun (x : Nat) => Int.ofNat 0) 0 e) (by intros; rfl)), (1, .pf (∀ (i e : Nat), i < 1 ∧ e < 0 → uD (fun (x : Nat) => Int.ofNat 0) 0 e = uD (fun (x : Nat) => Int.ofNat 0) 0 e) (by intros; rfl))]
    (V.need (∀ (i : Nat), i < 1 → 0 ≤ gd 1 (fun (x : Nat) => 0) i ∧ 0 ≤ gd 1 (fun (e : Nat) => x.snd.snd e) i)
    (nN [(1, .pf (∀ (i e : Nat), i < 1 ∧ e < 0 → cO (fun (x : Nat) => Int.ofNat 0) 0 i e = cO (fun (x : Nat) => Int.ofNat 0) 0 i e) (by intros; rfl)), (1, .pf (∀ (i e : Nat), i < 1 ∧ e < 0 → cA (fun (x : Nat) => Int.ofNat 0) 0 i e = cA (fun (x : Nat) => Int.ofNat 0) 0 i e) (by intros; rfl)), (1, .pf (∀ (i e : Nat), i < 1 ∧ e < 0 → cB (fun (x : Nat) => Int.ofNat 0) 0 i e = cB (fun (x : Nat) => Int.ofNat 0) 0 i e) (by intros; rfl))]
    (V.need (preTk (Cf.mk (Int.ofNat 1) (Int.ofNat 3) (Int.ofNat 1) (Int.ofNat 8) (Int.ofNat 4) (Int.ofNat 1) (Int.ofNat 1) (Int.ofNat 0) (Int.ofNat 1) 1 x.fst 0 x.snd.fst (fun (e : Nat) => 0) (fun (e : Nat) => x.snd.snd e) (fun (i e : Nat) => cO (fun (x : Nat) => Int.ofNat 0) 0 i e) (fun (i e : Nat) => cA (fun (x : Nat) => Int.ofNat 0) 0 i e) (fun (i e : Nat) => cB (fun (x : Nat) => Int.ofNat 0) 0 i e) (fun (e : Nat) => uP (fun (x : Nat) => Int.ofNat 0) 0 e) (fun (e : Nat) => uL (fun (x : Nat) => Int.ofNat 0) 0 e) fun (e : Nat) => uD (fun (x : Nat) => Int.ofNat 0) 0 e) (↑x_2.i : Int) (Int.ofNat 0))
    (nN [(1, .pf (∃ (x_5 : Int), x_5 = lT (Cf.mk (Int.ofNat 1) (Int.ofNat 3) (Int.ofNat 1) (Int.ofNat 8) (Int.ofNat 4) (Int.ofNat 1) (Int.ofNat 1) (Int.ofNat 0) (Int.ofNat 1) 1 x.fst 0 x.snd.fst (fun (e : Nat) => 0) (fun (e : Nat) => x.snd.snd e) (fun (i e : Nat) => cO (fun (x : Nat) => Int.ofNat 0) 0 i e) (fun (i e : Nat) => cA (fun (x : Nat) => Int.ofNat 0) 0 i e) (fun (i e : Nat) => cB (fun (x : Nat) => Int.ofNat 0) 0 i e) (fun (e : Nat) => uP (fun (x : Nat) => Int.ofNat 0) 0 e) (fun (e : Nat) => uL (fun (x : Nat) => Int.ofNat 0) 0 e) fun (e : Nat) => uD (fun (x : Nat) => Int.ofNat 0) 0 e) + (↑x_2.i : Int) * Int.ofNat 5 + Int.ofNat 0) ⟨_, rfl⟩)]
    (V.any Int (fun (r : Int) => r = lT (Cf.mk (Int.ofNat 1) (Int.ofNat 3) (Int.ofNat 1) (Int.ofNat 8) (Int.ofNat 4) (Int.ofNat 1) (Int.ofNat 1) (Int.ofNat 0) (Int.ofNat 1) 1 x.fst 0 x.snd.fst (fun (e : Nat) => 0) (fun (e : Nat) => x.snd.snd e) (fun (i e : Nat) => cO (fun (x : Nat) => Int.ofNat 0) 0 i e) (fun (i e : Nat) => cA (fun (x : Nat) => Int.ofNat 0) 0 i e) (fun (i e : Nat) => cB (fun (x : Nat) => Int.ofNat 0) 0 i e) (fun (e : Nat) => uP (fun (x : Nat) => Int.ofNat 0) 0 e) (fun (e : Nat) => uL (fun (x : Nat) => Int.ofNat 0) 0 e) fun (e : Nat) => uD (fun (x : Nat) => Int.ofNat 0) 0 e) + (↑x_2.i : Int) * Int.ofNat 5 + Int.ofNat 0) fun (x_5 : Int) => nN [(1, .pf (x_5 = x_5) rfl), (1, .eqI 3 3), (1, .pf (x_4.lk = x_4.lk) rfl), (1, .pf (x_4.lc = x_4.lc) rfl), (1, .pf (x_4.lo = x_4.lo) rfl), (1, .pf (x_4.ln = x_4.ln) rfl), (1, .pf (x_4.ct = x_4.ct) rfl), (1, .eq 66 66), (1, .le 66 66), (1, .pf (∀ (e : Nat), e < 66 → x_4.g e = x_4.g e) (by intros; rfl)), (1, .pf (∃ (x : Mm), x = (Mm.mk (fun (e : Nat) => x_4.g e) x_4.lk x_4.lc x_4.lo x_4.ln x_4.ct).acc 66 (Int.ofNat 2) x_5 (Int.ofNat 3)) ⟨_, rfl⟩)]
    (V.any Mm (fun (m' : Mm) => m' = (Mm.mk (fun (e : Nat) => x_4.g e) x_4.lk x_4.lc x_4.lo x_4.ln x_4.ct).acc 66 (Int.ofNat 2) x_5 (Int.ofNat 3)) fun (x_6 : Mm) => V.br (decide (IntKind.i64.wrap ((↑x_2.i : Int) + Int.ofNat 1) < IntKind.i64.wrap (Int.ofNat 1 + min (↑len : Int) (Int.ofNat 7))))
    (nN [(14, .lt2 0 1 0 1), (1, .eqI 1 1), (1, .eqI 3 3), (1, .eqI 1 1), (1, .eqI 8 8), (1, .eqI 4 4), (2, .eqI 1 1), (1, .eqI 0 0), (1, .eqI 1 1), (1, .eq 1 1), (1, .pf (x.fst = x.fst) rfl), (1, .eq 0 0), (1, .pf (x.snd.fst = x.snd.fst) rfl), (1, .pf ((↑x_2.i : Int) = (↑x_2.i : Int)) rfl), (1, .eqI 3 3), (1, .le 1 1), (1, .pf (∀ (i : Nat), i < 1 → 1 ≤ 1) (by intros; exact Nat.le_refl _)), (1, .pf (∀ (i e : Nat), i < 1 ∧ e < 1 → e = e) (by intros; rfl)), (1, .pf (∀ (i e : Nat), i < 1 ∧ e < 1 → 0 = 0) (by intros; rfl)), (1, .pf (∀ (i e : Nat), i < 1 ∧ e < 1 → x.snd.snd e = x.snd.snd e) (by intros; rfl)), (1, .le 1 1), (1, .pf (∀ (i : Nat), i < 1 → 0 ≤ 0) (by intros; exact Nat.le_refl _)), (1, .pf (∀ (i e : Nat), i < 1 ∧ e < 0 → uP (fun (x : Nat) => Int.ofNat 0) 0 e = uP (fun (x : Nat) => Int.ofNat 0) 0 e) (by intros; rfl)), (1, .pf (∀ (i e : Nat), i < 1 ∧ e < 0 → uL (fun (x : Nat) => Int.ofNat 0) 0 e = uL (fun (x : Nat) => Int.ofNat 0) 0 e) (by intros; rfl)), (1, .pf (∀ (i e : Nat), i < 1 ∧ e < 0 → uD (fun (x : Nat) => Int.ofNat 0) 0 e = uD (fun (x : Nat) => Int.ofNat 0) 0 e) (by intros; rfl))]
    (V.need (∀ (i : Nat), i < 1 → 0 ≤ gd 1 (fun (x : Nat) => 0) i ∧ 0 ≤ gd 1 (fun (e : Nat) => x.snd.snd e) i)
    (nN [(1, .pf (∀ (i e : Nat), i < 1 ∧ e < 0 → cO (fun (x : Nat) => Int.ofNat 0) 0 i e = cO (fun (x : Nat) => Int.ofNat 0) 0 i e) (by intros; rfl)), (1, .pf (∀ (i e : Nat), i < 1 ∧ e < 0 → cA (fun (x : Nat) => Int.ofNat 0) 0 i e = cA (fun (x : Nat) => Int.ofNat 0) 0 i e) (by intros; rfl)), (1, .pf (∀ (i e : Nat), i < 1 ∧ e < 0 → cB (fun (x : Nat) => Int.ofNat 0) 0 i e = cB (fun (x : Nat) => Int.ofNat 0) 0 i e) (by intros; rfl))]
    (V.need (preTk (Cf.mk (Int.ofNat 1) (Int.ofNat 3) (Int.ofNat 1) (Int.ofNat 8) (Int.ofNat 4) (Int.ofNat 1) (Int.ofNat 1) (Int.ofNat 0) (Int.ofNat 1) 1 x.fst 0 x.snd.fst (fun (e : Nat) => 0) (fun (e : Nat) => x.snd.snd e) (fun (i e : Nat) => cO (fun (x : Nat) => Int.ofNat 0) 0 i e) (fun (i e : Nat) => cA (fun (x : Nat) => Int.ofNat 0) 0 i e) (fun (i e : Nat) => cB (fun (x : Nat) => Int.ofNat 0) 0 i e) (fun (e : Nat) => uP (fun (x : Nat) => Int.ofNat 0) 0 e) (fun (e : Nat) => uL (fun (x : Nat) => Int.ofNat 0) 0 e) fun (e : Nat) => uD (fun (x : Nat) => Int.ofNat 0) 0 e) (↑x_2.i : Int) (Int.ofNat 3))
    (nN [(1, .pf (∃ (x_7 : Int), x_7 = lT (Cf.mk (Int.ofNat 1) (Int.ofNat 3) (Int.ofNat 1) (Int.ofNat 8) (Int.ofNat 4) (Int.ofNat 1) (Int.ofNat 1) (Int.ofNat 0) (Int.ofNat 1) 1 x.fst 0 x.snd.fst (fun (e : Nat) => 0) (fun (e : Nat) => x.snd.snd e) (fun (i e : Nat) => cO (fun (x : Nat) => Int.ofNat 0) 0 i e) (fun (i e : Nat) => cA (fun (x : Nat) => Int.ofNat 0) 0 i e) (fun (i e : Nat) => cB (fun (x : Nat) => Int.ofNat 0) 0 i e) (fun (e : Nat) => uP (fun (x : Nat) => Int.ofNat 0) 0 e) (fun (e : Nat) => uL (fun (x : Nat) => Int.ofNat 0) 0 e) fun (e : Nat) => uD (fun (x : Nat) => Int.ofNat 0) 0 e) + (↑x_2.i : Int) * Int.ofNat 5 + Int.ofNat 3) ⟨_, rfl⟩)]
    (V.any Int (fun (r : Int) => r = lT (Cf.mk (Int.ofNat 1) (Int.ofNat 3) (Int.ofNat 1) (Int.ofNat 8) (Int.ofNat 4) (Int.ofNat 1) (Int.ofNat 1) (Int.ofNat 0) (Int.ofNat 1) 1 x.fst 0 x.snd.fst (fun (e : Nat) => 0) (fun (e : Nat) => x.snd.snd e) (fun (i e : Nat) => cO (fun (x : Nat) => Int.ofNat 0) 0 i e) (fun (i e : Nat) => cA (fun (x : Nat) => Int.ofNat 0) 0 i e) (fun (i e : Nat) => cB (fun (x : Nat) => Int.ofNat 0) 0 i e) (fun (e : Nat) => uP (fun (x : Nat) => Int.ofNat 0) 0 e) (fun (e : Nat) => uL (fun (x : Nat) => Int.ofNat 0) 0 e) fun (e : Nat) => uD (fun (x : Nat) => Int.ofNat 0) 0 e) + (↑x_2.i : Int) * Int.ofNat 5 + Int.ofNat 3) fun (x : Int) => nN [(1, .pf (x = x) rfl), (1, .pf (IntKind.u64.wrap (IntKind.i64.wrap ((↑x_2.i : Int) + Int.ofNat 2)) = IntKind.u64.wrap (IntKind.i64.wrap ((↑x_2.i : Int) + Int.ofNat 2))) rfl), (1, .pf (x_6.lk = x_6.lk) rfl), (1, .pf (x_6.lc = x_6.lc) rfl), (1, .pf (x_6.lo = x_6.lo) rfl), (1, .pf (x_6.ln = x_6.ln) rfl), (1, .pf (x_6.ct = x_6.ct) rfl), (1, .eq 66 66), (1, .le 66 66), (1, .pf (∀ (e : Nat), e < 66 → x_6.g e = x_6.g e) (by intros; rfl)), (1, .pf (∃ (x_7 : Mm), x_7 = (Mm.mk (fun (e : Nat) => x_6.g e) x_6.lk x_6.lc x_6.lo x_6.ln x_6.ct).acc 66 (Int.ofNat 2) x (IntKind.u64.wrap (IntKind.i64.wrap ((↑x_2.i : Int) + Int.ofNat 2)))) ⟨_, rfl⟩)]
    (V.any Mm (fun (m' : Mm) => m' = (Mm.mk (fun (e : Nat) => x_6.g e) x_6.lk x_6.lc x_6.lo x_6.ln x_6.ct).acc 66 (Int.ofNat 2) x (IntKind.u64.wrap (IntKind.i64.wrap ((↑x_2.i : Int) + Int.ofNat 2)))) fun (x : Mm) => V.need ((IntKind.i64.wrap ((↑x_2.i : Int) + Int.ofNat 1)).toNat ≤ nBl len ∧ (IntKind.i64.wrap ((↑x_2.q : Int) + Int.ofNat 1)).toNat = rais (to.tmod 3) (bfB g len) (IntKind.i64.wrap ((↑x_2.i : Int) + Int.ofNat 1)).toNat ∧ (∀ (u : Nat), (if 0 = 0 ∧ u = 0 + (↑x_2.i : Int).toNat then IntKind.i64.wrap ((g (0 + (↑x_2.i : Int).toNat)).tmod (Int.ofNat 3)) else x_2.a u) = if u < (IntKind.i64.wrap ((↑x_2.i : Int) + Int.ofNat 1)).toNat then bfB g len u else Int.ofNat 0) ∧ ∀ (e : Nat), x.g e = mB (nBl len) (bfB g len) (IntKind.i64.wrap ((↑x_2.i : Int) + Int.ofNat 1)).toNat e)
    (V.need (nBl len - (IntKind.i64.wrap ((↑x_2.i : Int) + Int.ofNat 1)).toNat < nBl len - x_2.i)
    (V.need (IntKind.i64.wrap ((↑x_2.i : Int) + Int.ofNat 1) = (↑(IntKind.i64.wrap ((↑x_2.i : Int) + Int.ofNat 1)).toNat : Int))
    (V.need (IntKind.i64.wrap ((↑x_2.q : Int) + Int.ofNat 1) = (↑(IntKind.i64.wrap ((↑x_2.q : Int) + Int.ofNat 1)).toNat : Int))
    (nN [(1, .pf (x.lk = x.lk) rfl), (1, .pf (x.lc = x.lc) rfl), (1, .pf (x.lo = x.lo) rfl), (1, .pf (x.ln = x.ln) rfl), (1, .pf (x.ct = x.ct) rfl), (1, .eq 66 66), (1, .le 66 66), (1, .pf (∀ (e : Nat), e < 66 → x.g e = x.g e) (by intros; rfl)), (1, .eq 8 8), (1, .le 8 8)]
    (V.need (∀ (e : Nat), e < 8 → (if 0 = 0 ∧ e = 0 + (↑x_2.i : Int).toNat then IntKind.i64.wrap ((g (0 + (↑x_2.i : Int).toNat)).tmod (Int.ofNat 3)) else x_2.a e) = if 0 = 0 ∧ e = 0 + (↑x_2.i : Int).toNat then IntKind.i64.wrap ((g (0 + (↑x_2.i : Int).toNat)).tmod (Int.ofNat 3)) else x_2.a e) V.ok))))))))))))
    (V.need ((IntKind.i64.wrap ((↑x_2.i : Int) + Int.ofNat 1)).toNat ≤ nBl len ∧ (IntKind.i64.wrap ((↑x_2.q : Int) + Int.ofNat 1)).toNat = rais (to.tmod 3) (bfB g len) (IntKind.i64.wrap ((↑x_2.i : Int) + Int.ofNat 1)).toNat ∧ (∀ (u : Nat), (if 0 = 0 ∧ u = 0 + (↑x_2.i : Int).toNat then IntKind.i64.wrap ((g (0 + (↑x_2.i : Int).toNat)).tmod (Int.ofNat 3)) else x_2.a u) = if u < (IntKind.i64.wrap ((↑x_2.i : Int) + Int.ofNat 1)).toNat then bfB g len u else Int.ofNat 0) ∧ ∀ (e : Nat), x_6.g e = mB (nBl len) (bfB g len) (IntKind.i64.wrap ((↑x_2.i : Int) + Int.ofNat 1)).toNat e)
    (V.need (nBl len - (IntKind.i64.wrap ((↑x_2.i : Int) + Int.ofNat 1)).toNat < nBl len - x_2.i)
    (V.need (IntKind.i64.wrap ((↑x_2.i : Int) + Int.ofNat 1) = (↑(IntKind.i64.wrap ((↑x_2.i : Int) + Int.ofNat 1)).toNat : Int))
    (V.need (IntKind.i64.wrap ((↑x_2.q : Int) + Int.ofNat 1) = (↑(IntKind.i64.wrap ((↑x_2.q : Int) + Int.ofNat 1)).toNat : Int))
    (nN [(1, .pf (x_6.lk = x_6.lk) rfl), (1, .pf (x_6.lc = x_6.lc) rfl), (1, .pf (x_6.lo = x_6.lo) rfl), (1, .pf (x_6.ln = x_6.ln) rfl), (1, .pf (x_6.ct = x_6.ct) rfl), (1, .eq 66 66), (1, .le 66 66), (1, .pf (∀ (e : Nat), e < 66 → x_6.g e = x_6.g e) (by intros; rfl)), (1, .eq 8 8), (1, .le 8 8)]
    (V.need (∀ (e : Nat), e < 8 → (if 0 = 0 ∧ e = 0 + (↑x_2.i : Int).toNat then IntKind.i64.wrap ((g (0 + (↑x_2.i : Int).toNat)).tmod (Int.ofNat 3)) else x_2.a e) = if 0 = 0 ∧ e = 0 + (↑x_2.i : Int).toNat then IntKind.i64.wrap ((g (0 + (↑x_2.i : Int).toNat)).tmod (Int.ofNat 3)) else x_2.a e) V.ok)))))))))))))))))))))))))
    (nN [(14, .lt2 0 1 0 1), (1, .eqI 1 1), (1, .eqI 3 3), (1, .eqI 1 1), (1, .eqI 8 8), (1, .eqI 4 4), (2, .eqI 1 1), (1, .eqI 0 0), (1, .eqI 1 1), (1, .eq 1 1), (1, .pf (x.fst = x.fst) rfl), (1, .eq 0 0), (1, .pf (x.snd.fst = x.snd.fst) rfl), (1, .pf ((↑x_2.i : Int) = (↑x_2.i : Int)) rfl), (1, .eqI 1 1), (1, .le 1 1), (1, .pf (∀ (i : Nat), i < 1 → 1 ≤ 1) (by intros; exact Nat.le_refl _)), (1, .pf (∀ (i e : Nat), i < 1 ∧ e < 1 → e = e) (by intros; rfl)), (1, .pf (∀ (i e : Nat), i < 1 ∧ e < 1 → 0 = 0) (by intros; rfl)), (1, .pf (∀ (i e : Nat), i < 1 ∧ e < 1 → x.snd.snd e = x.snd.snd e) (by intros; rfl)), (1, .le 1 1), (1, .pf (∀ (i : Nat), i < 1 → 0 ≤ 0) (by intros; exact Nat.le_refl _)), (1, .pf (∀ (i e : Nat), i < 1 ∧ e < 0 → uP (fun (x : Nat) => Int.ofNat 0) 0 e = uP (fun (x : Nat) => Int.ofNat 0) 0 e) (by intros; rfl)), (1, .pf (∀ (i e : Nat), i < 1 ∧ e < 0 → uL (fun (x : Nat) => Int.ofNat 0) 0 e = uL (fun (x : Nat) => Int.ofNat 0) 0 e) (by intros; rfl)), (1, .pf (∀ (i e : Nat), i < 1 ∧ e < 0 → uD (fun (x : Nat) => Int.ofNat 0) 0 e = uD (fun (x : Nat) => Int.ofNat 0) 0 e) (by intros; rfl))]
    (V.need (∀ (i : Nat), i < 1 → 0 ≤ gd 1 (fun (x : Nat) => 0) i ∧ 0 ≤ gd 1 (fun (e : Nat) => x.snd.snd e) i)
    (nN [(1, .pf (∀ (i e : Nat), i < 1 ∧ e < 0 → cO (fun (x : Nat) => Int.ofNat 0) 0 i e = cO (fun (x : Nat) => Int.ofNat 0) 0 i e) (by intros; rfl)), (1, .pf (∀ (i e : Nat), i < 1 ∧ e < 0 → cA (fun (x : Nat) => Int.ofNat 0) 0 i e = cA (fun (x : Nat) => Int.ofNat 0) 0 i e) (by intros; rfl)), (1, .pf (∀ (i e : Nat), i < 1 ∧ e < 0 → cB (fun (x : Nat) => Int.ofNat 0) 0 i e = cB (fun (x : Nat) => Int.ofNat 0) 0 i e) (by intros; rfl))]
    (V.need (preTk (Cf.mk (Int.ofNat 1) (Int.ofNat 3) (Int.ofNat 1) (Int.ofNat 8) (Int.ofNat 4) (Int.ofNat 1) (Int.ofNat 1) (Int.ofNat 0) (Int.ofNat 1) 1 x.fst 0 x.snd.fst (fun (e : Nat) => 0) (fun (e : Nat) => x.snd.snd e) (fun (i e : Nat) => cO (fun (x : Nat) => Int.ofNat 0) 0 i e) (fun (i e : Nat) => cA (fun (x : Nat) => Int.ofNat 0) 0 i e) (fun (i e : Nat) => cB (fun (x : Nat) => Int.ofNat 0) 0 i e) (fun (e : Nat) => uP (fun (x : Nat) => Int.ofNat 0) 0 e) (fun (e : Nat) => uL (fun (x : Nat) => Int.ofNat 0) 0 e) fun (e : Nat) => uD (fun (x : Nat) => Int.ofNat 0) 0 e) (↑x_2.i : Int) (Int.ofNat 1))
    (nN [(1, .pf (∃ (x_3 : Int), x_3 = lT (Cf.mk (Int.ofNat 1) (Int.ofNat 3) (Int.ofNat 1) (Int.ofNat 8) (Int.ofNat 4) (Int.ofNat 1) (Int.ofNat 1) (Int.ofNat 0) (Int.ofNat 1) 1 x.fst 0 x.snd.fst (fun (e : Nat) => 0) (fun (e : Nat) => x.snd.snd e) (fun (i e : Nat) => cO (fun (x : Nat) => Int.ofNat 0) 0 i e) (fun (i e : Nat) => cA (fun (x : Nat) => Int.ofNat 0) 0 i e) (fun (i e : Nat) => cB (fun (x : Nat) => Int.ofNat 0) 0 i e) (fun (e : Nat) => uP (fun (x : Nat) => Int.ofNat 0) 0 e) (fun (e : Nat) => uL (fun (x : Nat) => Int.ofNat 0) 0 e) fun (e : Nat) => uD (fun (x : Nat) => Int.ofNat 0) 0 e) + (↑x_2.i : Int) * Int.ofNat 5 + Int.ofNat 1) ⟨_, rfl⟩)]
    (V.any Int (fun (r : Int) => r = lT (Cf.mk (Int.ofNat 1) (Int.ofNat 3) (Int.ofNat 1) (Int.ofNat 8) (Int.ofNat 4) (Int.ofNat 1) (Int.ofNat 1) (Int.ofNat 0) (Int.ofNat 1) 1 x.fst 0 x.snd.fst (fun (e : Nat) => 0) (fun (e : Nat) => x.snd.snd e) (fun (i e : Nat) => cO (fun (x : Nat) => Int.ofNat 0) 0 i e) (fun (i e : Nat) => cA (fun (x : Nat) => Int.ofNat 0) 0 i e) (fun (i e : Nat) => cB (fun (x : Nat) => Int.ofNat 0) 0 i e) (fun (e : Nat) => uP (fun (x : Nat) => Int.ofNat 0) 0 e) (fun (e : Nat) => uL (fun (x : Nat) => Int.ofNat 0) 0 e) fun (e : Nat) => uD (fun (x : Nat) => Int.ofNat 0) 0 e) + (↑x_2.i : Int) * Int.ofNat 5 + Int.ofNat 1) fun (x_3 : Int) => V.need (Int.ofNat 0 ≤ (↑x_2.i : Int) ∧ (↑x_2.i : Int) < (↑8 : Int))
    (V.need (0 < 1 ∧ 0 + (↑x_2.i : Int).toNat < 8)
    (V.need (0 < 1 ∧ 0 + (↑x_2.i : Int).toNat < 8)
    (nN [(1, .pf (x_3 = x_3) rfl)]
    (V.need (IntKind.u64.wrap (if 0 = 0 ∧ 0 + (↑x_2.i : Int).toNat = 0 + (↑x_2.i : Int).toNat then IntKind.i64.wrap ((g (0 + (↑x_2.i : Int).toNat)).tmod (Int.ofNat 3)) else x_2.a (0 + (↑x_2.i : Int).toNat)) = IntKind.u64.wrap (if 0 = 0 ∧ 0 + (↑x_2.i : Int).toNat = 0 + (↑x_2.i : Int).toNat then IntKind.i64.wrap ((g (0 + (↑x_2.i : Int).toNat)).tmod (Int.ofNat 3)) else x_2.a (0 + (↑x_2.i : Int).toNat)))
    (nN [(1, .pf (x_2.m.lk = x_2.m.lk) rfl), (1, .pf (x_2.m.lc = x_2.m.lc) rfl), (1, .pf (x_2.m.lo = x_2.m.lo) rfl), (1, .pf (x_2.m.ln = x_2.m.ln) rfl), (1, .pf (x_2.m.ct = x_2.m.ct) rfl), (1, .eq 66 66), (1, .le 66 66), (1, .pf (∀ (e : Nat), e < 66 → x_2.m.g e = x_2.m.g e) (by intros; rfl))]
    (V.need (∃ (x : Mm), x = (Mm.mk (fun (e : Nat) => x_2.m.g e) x_2.m.lk x_2.m.lc x_2.m.lo x_2.m.ln x_2.m.ct).acc 66 (Int.ofNat 2) x_3 (IntKind.u64.wrap (if 0 = 0 ∧ 0 + (↑x_2.i : Int).toNat = 0 + (↑x_2.i : Int).toNat then IntKind.i64.wrap ((g (0 + (↑x_2.i : Int).toNat)).tmod (Int.ofNat 3)) else x_2.a (0 + (↑x_2.i : Int).toNat))))
    (V.any Mm (fun (m' : Mm) => m' = (Mm.mk (fun (e : Nat) => x_2.m.g e) x_2.m.lk x_2.m.lc x_2.m.lo x_2.m.ln x_2.m.ct).acc 66 (Int.ofNat 2) x_3 (IntKind.u64.wrap (if 0 = 0 ∧ 0 + (↑x_2.i : Int).toNat = 0 + (↑x_2.i : Int).toNat then IntKind.i64.wrap ((g (0 + (↑x_2.i : Int).toNat)).tmod (Int.ofNat 3)) else x_2.a (0 + (↑x_2.i : Int).toNat)))) fun (x_4 : Mm) => nN [(14, .lt2 0 1 0 1), (1, .eqI 1 1), (1, .eqI 3 3), (1, .eqI 1 1), (1, .eqI 8 8), (1, .eqI 4 4), (2, .eqI 1 1), (1, .eqI 0 0), (1, .eqI 1 1), (1, .eq 1 1), (1, .pf (x.fst = x.fst) rfl), (1, .eq 0 0), (1, .pf (x.snd.fst = x.snd.fst) rfl), (1, .pf ((↑x_2.i : Int) = (↑x_2.i : Int)) rfl), (1, .eqI 0 0), (1, .le 1 1), (1, .pf (∀ (i : Nat), i < 1 → 1 ≤ 1) (by intros; exact Nat.le_refl _)), (1, .pf (∀ (i e : Nat), i < 1 ∧ e < 1 → e = e) (by intros; rfl)), (1, .pf (∀ (i e : Nat), i < 1 ∧ e < 1 → 0 = 0) (by intros; rfl)), (1, .pf (∀ (i e : Nat), i < 1 ∧ e < 1 → x.snd.snd e = x.snd.snd e) (by intros; rfl)), (1, .le 1 1), (1, .pf (∀ (i : Nat), i < 1 → 0 ≤ 0) (by intros; exact Nat.le_refl _)), (1, .pf (∀ (i e : Nat), i < 1 ∧ e < 0 → uP (fun (x : Nat) => Int.ofNat 0) 0 e = uP (fun (x : Nat) => Int.ofNat 0) 0 e) (by intros; rfl)), (1, .pf (∀ (i e : Nat), i < 1 ∧ e < 0 → uL (fun (x : Nat) => Int.ofNat 0) 0 e = uL (fun (x : Nat) => Int.ofNat 0) 0 e) (by intros; rfl)), (1, .pf (∀ (i e : Nat), i < 1 ∧ e < 0 → uD (fun (x : Nat) => Int.ofNat 0) 0 e = uD (fun (x : Nat) => Int.ofNat 0) 0 e) (by intros; rfl))]
    (V.need (∀ (i : Nat), i < 1 → 0 ≤ gd 1 (fun (x : Nat) => 0) i ∧ 0 ≤ gd 1 (fun (e : Nat) => x.snd.snd e) i)
    (nN [(1, .pf (∀ (i e : Nat), i < 1 ∧ e < 0 → cO (fun (x : Nat) => Int.ofNat 0) 0 i e = cO (fun (x : Nat) => Int.ofNat 0) 0 i e) (by intros; rfl)), (1, .pf (∀ (i e : Nat), i < 1 ∧ e < 0 → cA (fun (x : Nat) => Int.ofNat 0) 0 i e = cA (fun (x : Nat) => Int.ofNat 0) 0 i e) (by intros; rfl)), (1, .pf (∀ (i e : Nat), i < 1 ∧ e < 0 → cB (fun (x : Nat) => Int.ofNat 0) 0 i e = cB (fun (x : Nat) => Int.ofNat 0) 0 i e) (by intros; rfl))]
    (V.need (preTk (Cf.mk (Int.ofNat 1) (Int.ofNat 3) (Int.ofNat 1) (Int.ofNat 8) (Int.ofNat 4) (Int.ofNat 1) (Int.ofNat 1) (Int.ofNat 0) (Int.ofNat 1) 1 x.fst 0 x.snd.fst (fun (e : Nat) => 0) (fun (e : Nat) => x.snd.snd e) (fun (i e : Nat) => cO (fun (x : Nat) => Int.ofNat 0) 0 i e) (fun (i e : Nat) => cA (fun (x : Nat) => Int.ofNat 0) 0 i e) (fun (i e : Nat) => cB (fun (x : Nat) => Int.ofNat 0) 0 i e) (fun (e : Nat) => uP (fun (x : Nat) => Int.ofNat 0) 0 e) (fun (e : Nat) => uL (fun (x : Nat) => Int.ofNat 0) 0 e) fun (e : Nat) => uD (fun (x : Nat) => Int.ofNat 0) 0 e) (↑x_2.i : Int) (Int.ofNat 0))
    (nN [(1, .pf (∃ (x_5 : Int), x_5 = lT (Cf.mk (Int.ofNat 1) (Int.ofNat 3) (Int.ofNat 1) (Int.ofNat 8) (Int.ofNat 4) (Int.ofNat 1) (Int.ofNat 1) (Int.ofNat 0) (Int.ofNat 1) 1 x.fst 0 x.snd.fst (fun (e : Nat) => 0) (fun (e : Nat) => x.snd.snd e) (fun (i e : Nat) => cO (fun (x : Nat) => Int.ofNat 0) 0 i e) (fun (i e : Nat) => cA (fun (x : Nat) => Int.ofNat 0) 0 i e) (fun (i e : Nat) => cB (fun (x : Nat) => Int.ofNat 0) 0 i e) (fun (e : Nat) => uP (fun (x : Nat) => Int.ofNat 0) 0 e) (fun (e : Nat) => uL (fun (x : Nat) => Int.ofNat 0) 0 e) fun (e : Nat) => uD (fun (x : Nat) => Int.ofNat 0) 0 e) + (↑x_2.i : Int) * Int.ofNat 5 + Int.ofNat 0) ⟨_, rfl⟩)]
    (V.any Int (fun (r : Int) => r = lT (Cf.mk (Int.ofNat 1) (Int.ofNat 3) (Int.ofNat 1) (Int.ofNat 8) (Int.ofNat 4) (Int.ofNat 1) (Int.ofNat 1) (Int.ofNat 0) (Int.ofNat 1) 1 x.fst 0 x.snd.fst (fun (e : Nat) => 0) (fun (e : Nat) => x.snd.snd e) (fun (i e : Nat) => cO (fun (x : Nat) => Int.ofNat 0) 0 i e) (fun (i e : Nat) => cA (fun (x : Nat) => Int.ofNat 0) 0 i e) (fun (i e : Nat) => cB (fun (x : Nat) => Int.ofNat 0) 0 i e) (fun (e : Nat) => uP (fun (x : Nat) => Int.ofNat 0) 0 e) (fun (e : Nat) => uL (fun (x : Nat) => Int.ofNat 0) 0 e) fun (e : Nat) => uD (fun (x : Nat) => Int.ofNat 0) 0 e) + (↑x_2.i : Int) * Int.ofNat 5 + Int.ofNat 0) fun (x_5 : Int) => nN [(1, .pf (x_5 = x_5) rfl), (1, .eqI 3 3), (1, .pf (x_4.lk = x_4.lk) rfl), (1, .pf (x_4.lc = x_4.lc) rfl), (1, .pf (x_4.lo = x_4.lo) rfl), (1, .pf (x_4.ln = x_4.ln) rfl), (1, .pf (x_4.ct = x_4.ct) rfl), (1, .eq 66 66), (1, .le 66 66), (1, .pf (∀ (e : Nat), e < 66 → x_4.g e = x_4.g e) (by intros; rfl)), (1, .pf (∃ (x : Mm), x = (Mm.mk (fun (e : Nat) => x_4.g e) x_4.lk x_4.lc x_4.lo x_4.ln x_4.ct).acc 66 (Int.ofNat 2) x_5 (Int.ofNat 3)) ⟨_, rfl⟩)]
    (V.any Mm (fun (m' : Mm) => m' = (Mm.mk (fun (e : Nat) => x_4.g e) x_4.lk x_4.lc x_4.lo x_4.ln x_4.ct).acc 66 (Int.ofNat 2) x_5 (Int.ofNat 3)) fun (x_6 : Mm) => V.br (decide (IntKind.i64.wrap ((↑x_2.i : Int) + Int.ofNat 1) < IntKind.i64.wrap (Int.ofNat 1 + min (↑len : Int) (Int.ofNat 7))))
    (nN [(14, .lt2 0 1 0 1), (1, .eqI 1 1), (1, .eqI 3 3), (1, .eqI 1 1), (1, .eqI 8 8), (1, .eqI 4 4), (2, .eqI 1 1), (1, .eqI 0 0), (1, .eqI 1 1), (1, .eq 1 1), (1, .pf (x.fst = x.fst) rfl), (1, .eq 0 0), (1, .pf (x.snd.fst = x.snd.fst) rfl), (1, .pf ((↑x_2.i : Int) = (↑x_2.i : Int)) rfl), (1, .eqI 3 3), (1, .le 1 1), (1, .pf (∀ (i : Nat), i < 1 → 1 ≤ 1) (by intros; exact Nat.le_refl _)), (1, .pf (∀ (i e : Nat), i < 1 ∧ e < 1 → e = e) (by intros; rfl)), (1, .pf (∀ (i e : Nat), i < 1 ∧ e < 1 → 0 = 0) (by intros; rfl)), (1, .pf (∀ (i e : Nat), i < 1 ∧ e < 1 → x.snd.snd e = x.snd.snd e) (by intros; rfl)), (1, .le 1 1), (1, .pf (∀ (i : Nat), i < 1 → 0 ≤ 0) (by intros; exact Nat.le_refl _)), (1, .pf (∀ (i e : Nat), i < 1 ∧ e < 0 → uP (fun (x : Nat) => Int.ofNat 0) 0 e = uP (fun (x : Nat) => Int.ofNat 0) 0 e) (by intros; rfl)), (1, .pf (∀ (i e : Nat), i < 1 ∧ e < 0 → uL (fun (x : Nat) => Int.ofNat 0) 0 e = uL (fun (x : Nat) => Int.ofNat 0) 0 e) (by intros; rfl)), (1, .pf (∀ (i e : Nat), i < 1 ∧ e < 0 → uD (fun (x : Nat) => Int.ofNat 0) 0 e = uD (fun (x : Nat) => Int.ofNat 0) 0 e) (by intros; rfl))]
    (V.need (∀ (i : Nat), i < 1 → 0 ≤ gd 1 (fun (x : Nat) => 0) i ∧ 0 ≤ gd 1 (fun (e : Nat) => x.snd.snd e) i)
    (nN [(1, .pf (∀ (i e : Nat), i < 1 ∧ e < 0 → cO (fun (x : Nat) => Int.ofNat 0) 0 i e = cO (fun (x : Nat) => Int.ofNat 0) 0 i e) (by intros; rfl)), (1, .pf (∀ (i e : Nat), i < 1 ∧ e < 0 → cA (fun (x : Nat) => Int.ofNat 0) 0 i e = cA (fun (x : Nat) => Int.ofNat 0) 0 i e) (by intros; rfl)), (1, .pf (∀ (i e : Nat), i < 1 ∧ e < 0 → cB (fun (x : Nat) => Int.ofNat 0) 0 i e = cB (fun (x : Nat) => Int.ofNat 0) 0 i e) (by intros; rfl))]
    (V.need (preTk (Cf.mk (Int.ofNat 1) (Int.ofNat 3) (Int.ofNat 1) (Int.ofNat 8) (Int.ofNat 4) (Int.ofNat 1) (Int.ofNat 1) (Int.ofNat 0) (Int.ofNat 1) 1 x.fst 0 x.snd.fst (fun (e : Nat) => 0) (fun (e : Nat) => x.snd.snd e) (fun (i e : Nat) => cO (fun (x : Nat) => Int.ofNat 0) 0 i e) (fun (i e : Nat) => cA (fun (x : Nat) => Int.ofNat 0) 0 i e) (fun (i e : Nat) => cB (fun (x : Nat) => Int.ofNat 0) 0 i e) (fun (e : Nat) => uP (fun (x : Nat) => Int.ofNat 0) 0 e) (fun (e : Nat) => uL (fun (x : Nat) => Int.ofNat 0) 0 e) fun (e : Nat) => uD (fun (x : Nat) => Int.ofNat 0) 0 e) (↑x_2.i : Int) (Int.ofNat 3))
    (nN [(1, .pf (∃ (x_7 : Int), x_7 = lT (Cf.mk (Int.ofNat 1) (Int.ofNat 3) (Int.ofNat 1) (Int.ofNat 8) (Int.ofNat 4) (Int.ofNat 1) (Int.ofNat 1) (Int.ofNat 0) (Int.ofNat 1) 1 x.fst 0 x.snd.fst (fun (e : Nat) => 0) (fun (e : Nat) => x.snd.snd e) (fun (i e : Nat) => cO (fun (x : Nat) => Int.ofNat 0) 0 i e) (fun (i e : Nat) => cA (fun (x : Nat) => Int.ofNat 0) 0 i e) (fun (i e : Nat) => cB (fun (x : Nat) => Int.ofNat 0) 0 i e) (fun (e : Nat) => uP (fun (x : Nat) => Int.ofNat 0) 0 e) (fun (e : Nat) => uL (fun (x : Nat) => Int.ofNat 0) 0 e) fun (e : Nat) => uD (fun (x : Nat) => Int.ofNat 0) 0 e) + (↑x_2.i : Int) * Int.ofNat 5 + Int.ofNat 3) ⟨_, rfl⟩)]
    (V.any Int (fun (r : Int) => r = lT (Cf.mk (Int.ofNat 1) (Int.ofNat 3) (Int.ofNat 1) (Int.ofNat 8) (Int.ofNat 4) (Int.ofNat 1) (Int.ofNat 1) (Int.ofNat 0) (Int.ofNat 1) 1 x.fst 0 x.snd.fst (fun (e : Nat) => 0) (fun (e : Nat) => x.snd.snd e) (fun (i e : Nat) => cO (fun (x : Nat) => Int.ofNat 0) 0 i e) (fun (i e : Nat) => cA (fun (x : Nat) => Int.ofNat 0) 0 i e) (fun (i e : Nat) => cB (fun (x : Nat) => Int.ofNat 0) 0 i e) (fun (e : Nat) => uP (fun (x : Nat) => Int.ofNat 0) 0 e) (fun (e : Nat) => uL (fun (x : Nat) => Int.ofNat 0) 0 e) fun (e : Nat) => uD (fun (x : Nat) => Int.ofNat 0) 0 e) + (↑x_2.i : Int) * Int.ofNat 5 + Int.ofNat 3) fun (x : Int) => nN [(1, .pf (x = x) rfl), (1, .pf (IntKind.u64.wrap (IntKind.i64.wrap ((↑x_2.i : Int) + Int.ofNat 2)) = IntKind.u64.wrap (IntKind.i64.wrap ((↑x_2.i : Int) + Int.ofNat 2))) rfl), (1, .pf (x_6.lk = x_6.lk) rfl), (1, .pf (x_6.lc = x_6.lc) rfl), (1, .pf (x_6.lo = x_6.lo) rfl), (1, .pf (x_6.ln = x_6.ln) rfl), (1, .pf (x_6.ct = x_6.ct) rfl), (1, .eq 66 66), (1, .le 66 66), (1, .pf (∀ (e : Nat), e < 66 → x_6.g e = x_6.g e) (by intros; rfl)), (1, .pf (∃ (x_7 : Mm), x_7 = (Mm.mk (fun (e : Nat) => x_6.g e) x_6.lk x_6.lc x_6.lo x_6.ln x_6.ct).acc 66 (Int.ofNat 2) x (IntKind.u64.wrap (IntKind.i64.wrap ((↑x_2.i : Int) + Int.ofNat 2)))) ⟨_, rfl⟩)]
    (V.any Mm (fun (m' : Mm) => m' = (Mm.mk (fun (e : Nat) => x_6.g e) x_6.lk x_6.lc x_6.lo x_6.ln x_6.ct).acc 66 (Int.ofNat 2) x (IntKind.u64.wrap (IntKind.i64.wrap ((↑x_2.i : Int) + Int.ofNat 2)))) fun (x : Mm) => V.need ((IntKind.i64.wrap ((↑x_2.i : Int) + Int.ofNat 1)).toNat ≤ nBl len ∧ (↑x_2.q : Int).toNat = rais (to.tmod 3) (bfB g len) (IntKind.i64.wrap ((↑x_2.i : Int) + Int.ofNat 1)).toNat ∧ (∀ (u : Nat), (if 0 = 0 ∧ u = 0 + (↑x_2.i : Int).toNat then IntKind.i64.wrap ((g (0 + (↑x_2.i : Int).toNat)).tmod (Int.ofNat 3)) else x_2.a u) = if u < (IntKind.i64.wrap ((↑x_2.i : Int) + Int.ofNat 1)).toNat then bfB g len u else Int.ofNat 0) ∧ ∀ (e : Nat), x.g e = mB (nBl len) (bfB g len) (IntKind.i64.wrap ((↑x_2.i : Int) + Int.ofNat 1)).toNat e)
    (V.need (nBl len - (IntKind.i64.wrap ((↑x_2.i : Int) + Int.ofNat 1)).toNat < nBl len - x_2.i)
    (V.need (IntKind.i64.wrap ((↑x_2.i : Int) + Int.ofNat 1) = (↑(IntKind.i64.wrap ((↑x_2.i : Int) + Int.ofNat 1)).toNat : Int))
    (V.need ((↑x_2.q : Int) = (↑(↑x_2.q : Int).toNat : Int))
    (nN [(1, .pf (x.lk = x.lk) rfl), (1, .pf (x.lc = x.lc) rfl), (1, .pf (x.lo = x.lo) rfl), (1, .pf (x.ln = x.ln) rfl), (1, .pf (x.ct = x.ct) rfl), (1, .eq 66 66), (1, .le 66 66), (1, .pf (∀ (e : Nat), e < 66 → x.g e = x.g e) (by intros; rfl)), (1, .eq 8 8), (1, .le 8 8)]
    (V.need (∀ (e : Nat), e < 8 → (if 0 = 0 ∧ e = 0 + (↑x_2.i : Int).toNat then IntKind.i64.wrap ((g (0 + (↑x_2.i : Int).toNat)).tmod (Int.ofNat 3)) else x_2.a e) = if 0 = 0 ∧ e = 0 + (↑x_2.i : Int).toNat then IntKind.i64.wrap ((g (0 + (↑x_2.i : Int).toNat)).tmod (Int.ofNat 3)) else x_2.a e) V.ok))))))))))))
    (V.need ((IntKind.i64.wrap ((↑x_2.i : Int) + Int.ofNat 1)).toNat ≤ nBl len ∧ (↑x_2.q : Int).toNat = rais (to.tmod 3) (bfB g len) (IntKind.i64.wrap ((↑x_2.i : Int) + Int.ofNat 1)).toNat ∧ (∀ (u : Nat), (if 0 = 0 ∧ u = 0 + (↑x_2.i : Int).toNat then IntKind.i64.wrap ((g (0 + (↑x_2.i : Int).toNat)).tmod (Int.ofNat 3)) else x_2.a u) = if u < (IntKind.i64.wrap ((↑x_2.i : Int) + Int.ofNat 1)).toNat then bfB g len u else Int.ofNat 0) ∧ ∀ (e : Nat), x_6.g e = mB (nBl len) (bfB g len) (IntKind.i64.wrap ((↑x_2.i : Int) + Int.ofNat 1)).toNat e)
    (V.need (nBl len - (IntKind.i64.wrap ((↑x_2.i : Int) + Int.ofNat 1)).toNat < nBl len - x_2.i)
    (V.need (IntKind.i64.wrap ((↑x_2.i : Int) + Int.ofNat 1) = (↑(IntKind.i64.wrap ((↑x_2.i : Int) + Int.ofNat 1)).toNat : Int))
    (V.need ((↑x_2.q : Int) = (↑(↑x_2.q : Int).toNat : Int))
    (nN [(1, .pf (x_6.lk = x_6.lk) rfl), (1, .pf (x_6.lc = x_6.lc) rfl), (1, .pf (x_6.lo = x_6.lo) rfl), (1, .pf (x_6.ln = x_6.ln) rfl), (1, .pf (x_6.ct = x_6.ct) rfl), (1, .eq 66 66), (1, .le 66 66), (1, .pf (∀ (e : Nat), e < 66 → x_6.g e = x_6.g e) (by intros; rfl)), (1, .eq 8 8), (1, .le 8 8)]
    (V.need (∀ (e : Nat), e < 8 → (if 0 = 0 ∧ e = 0 + (↑x_2.i : Int).toNat then IntKind.i64.wrap ((g (0 + (↑x_2.i : Int).toNat)).tmod (Int.ofNat 3)) else x_2.a e) = if 0 = 0 ∧ e = 0 + (↑x_2.i : Int).toNat then IntKind.i64.wrap ((g (0 + (↑x_2.i : Int).toNat)).tmod (Int.ofNat 3)) else x_2.a e) V.ok))))))))))))))))))))))))))))))))))))
    (V.need (Int.ofNat 0 ≤ (↑x_2.i : Int) ∧ (↑x_2.i : Int) < (↑8 : Int))
    (V.need (0 + (↑x_2.i : Int).toNat < 8)
    (V.need (0 + (↑x_2.i : Int).toNat < 8)
    (V.br (decide (x_2.a (0 + (↑x_2.i : Int).toNat) < IntKind.i64.wrap (to.tmod (Int.ofNat 3))))
    (nN [(14, .lt2 0 1 0 1), (1, .eqI 1 1), (1, .eqI 3 3), (1, .eqI 1 1), (1, .eqI 8 8), (1, .eqI 4 4), (2, .eqI 1 1), (1, .eqI 0 0), (1, .eqI 1 1), (1, .eq 1 1), (1, .pf (x.fst = x.fst) rfl), (1, .eq 0 0), (1, .pf (x.snd.fst = x.snd.fst) rfl), (1, .pf ((↑x_2.i : Int) = (↑x_2.i : Int)) rfl), (1, .eqI 1 1), (1, .le 1 1), (1, .pf (∀ (i : Nat), i < 1 → 1 ≤ 1) (by intros; exact Nat.le_refl _)), (1, .pf (∀ (i e : Nat), i < 1 ∧ e < 1 → e = e) (by intros; rfl)), (1, .pf (∀ (i e : Nat), i < 1 ∧ e < 1 → 0 = 0) (by intros; rfl)), (1, .pf (∀ (i e : Nat), i < 1 ∧ e < 1 → x.snd.snd e = x.snd.snd e) (by intros; rfl)), (1, .le 1 1), (1, .pf (∀ (i : Nat), i < 1 → 0 ≤ 0) (by intros; exact Nat.le_refl _)), (1, .pf (∀ (i e : Nat), i < 1 ∧ e < 0 → uP (fun (x : Nat) => Int.ofNat 0) 0 e = uP (fun (x : Nat) => Int.ofNat 0) 0 e) (by intros; rfl)), (1, .pf (∀ (i e : Nat), i < 1 ∧ e < 0 → uL (fun (x : Nat) => Int.ofNat 0) 0 e = uL (fun (x : Nat) => Int.ofNat 0) 0 e) (by intros; rfl)), (1, .pf (∀ (i e : Nat), i < 1 ∧ e < 0 → uD (fun (x : Nat) => Int.ofNat 0) 0 e = uD (fun (x : Nat) => Int.ofNat 0) 0 e) (by intros; rfl))]
    (V.need (∀ (i : Nat), i < 1 → 0 ≤ gd 1 (fun (x : Nat) => 0) i ∧ 0 ≤ gd 1 (fun (e : Nat) => x.snd.snd e) i)
    (nN [(1, .pf (∀ (i e : Nat), i < 1 ∧ e < 0 → cO (fun (x : Nat) => Int.ofNat 0) 0 i e = cO (fun (x : Nat) => Int.ofNat 0) 0 i e) (by intros; rfl)), (1, .pf (∀ (i e : Nat), i < 1 ∧ e < 0 → cA (fun (x : Nat) => Int.ofNat 0) 0 i e = cA (fun (x : Nat) => Int.ofNat 0) 0 i e) (by intros; rfl)), (1, .pf (∀ (i e : Nat), i < 1 ∧ e < 0 → cB (fun (x : Nat) => Int.ofNat 0) 0 i e = cB (fun (x : Nat) => Int.ofNat 0) 0 i e) (by intros; rfl))]
    (V.need (preTk (Cf.mk (Int.ofNat 1) (Int.ofNat 3) (Int.ofNat 1) (Int.ofNat 8) (Int.ofNat 4) (Int.ofNat 1) (Int.ofNat 1) (Int.ofNat 0) (Int.ofNat 1) 1 x.fst 0 x.snd.fst (fun (e : Nat) => 0) (fun (e : Nat) => x.snd.snd e) (fun (i e : Nat) => cO (fun (x : Nat) => Int.ofNat 0) 0 i e) (fun (i e : Nat) => cA (fun (x : Nat) => Int.ofNat 0) 0 i e) (fun (i e : Nat) => cB (fun (x : Nat) => Int.ofNat 0) 0 i e) (fun (e : Nat) => uP (fun (x : Nat) => Int.ofNat 0) 0 e) (fun (e : Nat) => uL (fun (x : Nat) => Int.ofNat 0) 0 e) fun (e : Nat) => uD (fun (x : Nat) => Int.ofNat 0) 0 e) (↑x_2.i : Int) (Int.ofNat 1))
    (nN [(1, .pf (∃ (x_3 : Int), x_3 = lT (Cf.mk (Int.ofNat 1) (Int.ofNat 3) (Int.ofNat 1) (Int.ofNat 8) (Int.ofNat 4) (Int.ofNat 1) (Int.ofNat 1) (Int.ofNat 0) (Int.ofNat 1) 1 x.fst 0 x.snd.fst (fun (e : Nat) => 0) (fun (e : Nat) => x.snd.snd e) (fun (i e : Nat) => cO (fun (x : Nat) => Int.ofNat 0) 0 i e) (fun (i e : Nat) => cA (fun (x : Nat) => Int.ofNat 0) 0 i e) (fun (i e : Nat) => cB (fun (x : Nat) => Int.ofNat 0) 0 i e) (fun (e : Nat) => uP (fun (x : Nat) => Int.ofNat 0) 0 e) (fun (e : Nat) => uL (fun (x : Nat) => Int.ofNat 0) 0 e) fun (e : Nat) => uD (fun (x : Nat) => Int.ofNat 0) 0 e) + (↑x_2.i : Int) * Int.ofNat 5 + Int.ofNat 1) ⟨_, rfl⟩)]
    (V.any Int (fun (r : Int) => r = lT (Cf.mk (Int.ofNat 1) (Int.ofNat 3) (Int.ofNat 1) (Int.ofNat 8) (Int.ofNat 4) (Int.ofNat 1) (Int.ofNat 1) (Int.ofNat 0) (Int.ofNat 1) 1 x.fst 0 x.snd.fst (fun (e : Nat) => 0) (fun (e : Nat) => x.snd.snd e) (fun (i e : Nat) => cO (fun (x : Nat) => Int.ofNat 0) 0 i e) (fun (i e : Nat) => cA (fun (x : Nat) => Int.ofNat 0) 0 i e) (fun (i e : Nat) => cB (fun (x : Nat) => Int.ofNat 0) 0 i e) (fun (e : Nat) => uP (fun (x : Nat) => Int.ofNat 0) 0 e) (fun (e : Nat) => uL (fun (x : Nat) => Int.ofNat 0) 0 e) fun (e : Nat) => uD (fun (x : Nat) => Int.ofNat 0) 0 e) + (↑x_2.i : Int) * Int.ofNat 5 + Int.ofNat 1) fun (x_3 : Int) => V.need (Int.ofNat 0 ≤ (↑x_2.i : Int) ∧ (↑x_2.i : Int) < (↑8 : Int))
    (V.need (0 < 1 ∧ 0 + (↑x_2.i : Int).toNat < 8)
    (V.need (0 < 1 ∧ 0 + (↑x_2.i : Int).toNat < 8)
    (nN [(1, .pf (x_3 = x_3) rfl), (1, .pf (IntKind.u64.wrap (x_2.a (0 + (↑x_2.i : Int).toNat)) = IntKind.u64.wrap (x_2.a (0 + (↑x_2.i : Int).toNat))) rfl), (1, .pf (x_2.m.lk = x_2.m.lk) rfl), (1, .pf (x_2.m.lc = x_2.m.lc) rfl), (1, .pf (x_2.m.lo = x_2.m.lo) rfl), (1, .pf (x_2.m.ln = x_2.m.ln) rfl), (1, .pf (x_2.m.ct = x_2.m.ct) rfl), (1, .eq 66 66), (1, .le 66 66), (1, .pf (∀ (e : Nat), e < 66 → x_2.m.g e = x_2.m.g e) (by intros; rfl)), (1, .pf (∃ (x : Mm), x = (Mm.mk (fun (e : Nat) => x_2.m.g e) x_2.m.lk x_2.m.lc x_2.m.lo x_2.m.ln x_2.m.ct).acc 66 (Int.ofNat 2) x_3 (IntKind.u64.wrap (x_2.a (0 + (↑x_2.i : Int).toNat)))) ⟨_, rfl⟩)]
    (V.any Mm (fun (m' : Mm) => m' = (Mm.mk (fun (e : Nat) => x_2.m.g e) x_2.m.lk x_2.m.lc x_2.m.lo x_2.m.ln x_2.m.ct).acc 66 (Int.ofNat 2) x_3 (IntKind.u64.wrap (x_2.a (0 + (↑x_2.i : Int).toNat)))) fun (x_4 : Mm) => nN [(14, .lt2 0 1 0 1), (1, .eqI 1 1), (1, .eqI 3 3), (1, .eqI 1 1), (1, .eqI 8 8), (1, .eqI 4 4), (2, .eqI 1 1), (1, .eqI 0 0), (1, .eqI 1 1), (1, .eq 1 1), (1, .pf (x.fst = x.fst) rfl), (1, .eq 0 0), (1, .pf (x.snd.fst = x.snd.fst) rfl), (1, .pf ((↑x_2.i : Int) = (↑x_2.i : Int)) rfl), (1, .eqI 0 0), (1, .le 1 1), (1, .pf (∀ (i : Nat), i < 1 → 1 ≤ 1) (by intros; exact Nat.le_refl _)), (1, .pf (∀ (i e : Nat), i < 1 ∧ e < 1 → e = e) (by intros; rfl)), (1, .pf (∀ (i e : Nat), i < 1 ∧ e < 1 → 0 = 0) (by intros; rfl)), (1, .pf (∀ (i e : Nat), i < 1 ∧ e < 1 → x.snd.snd e = x.snd.snd e) (by intros; rfl)), (1, .le 1 1), (1, .pf (∀ (i : Nat), i < 1 → 0 ≤ 0) (by intros; exact Nat.le_refl _)), (1, .pf (∀ (i e : Nat), i < 1 ∧ e < 0 → uP (fun (x : Nat) => Int.ofNat 0) 0 e = uP (fun (x : Nat) => Int.ofNat 0) 0 e) (by intros; rfl)), (1, .pf (∀ (i e : Nat), i < 1 ∧ e < 0 → uL (fun (x : Nat) => Int.ofNat 0) 0 e = uL (fun (x : Nat) => Int.ofNat 0) 0 e) (by intros; rfl)), (1, .pf (∀ (i e : Nat), i < 1 ∧ e < 0 → uD (fun (x : Nat) => Int.ofNat 0) 0 e = uD (fun (x : Nat) => Int.ofNat 0) 0 e) (by intros; rfl))]
    (V.need (∀ (i : Nat), i < 1 → 0 ≤ gd 1 (fun (x : Nat) => 0) i ∧ 0 ≤ gd 1 (fun (e : Nat) => x.snd.snd e) i)
    (nN [(1, .pf (∀ (i e : Nat), i < 1 ∧ e < 0 → cO (fun (x : Nat) => Int.ofNat 0) 0 i e = cO (fun (x : Nat) => Int.ofNat 0) 0 i e) (by intros; rfl)), (1, .pf (∀ (i e : Nat), i < 1 ∧ e < 0 → cA (fun (x : Nat) => Int.ofNat 0) 0 i e = cA (fun (x : Nat) => Int.ofNat 0) 0 i e) (by intros; rfl)), (1, .pf (∀ (i e : Nat), i < 1 ∧ e < 0 → cB (fun (x : Nat) => Int.ofNat 0) 0 i e = cB (fun (x : Nat) => Int.ofNat 0) 0 i e) (by intros; rfl))]
    (V.need (preTk (Cf.mk (Int.ofNat 1) (Int.ofNat 3) (Int.ofNat 1) (Int.ofNat 8) (Int.ofNat 4) (Int.ofNat 1) (Int.ofNat 1) (Int.ofNat 0) (Int.ofNat 1) 1 x.fst 0 x.snd.fst (fun (e : Nat) => 0) (fun (e : Nat) => x.snd.snd e) (fun (i e : Nat) => cO (fun (x : Nat) => Int.ofNat 0) 0 i e) (fun (i e : Nat) => cA (fun (x : Nat) => Int.ofNat 0) 0 i e) (fun (i e : Nat) => cB (fun (x : Nat) => Int.ofNat 0) 0 i e) (fun (e : Nat) => uP (fun (x : Nat) => Int.ofNat 0) 0 e) (fun (e : Nat) => uL (fun (x : Nat) => Int.ofNat 0) 0 e) fun (e : Nat) => uD (fun (x : Nat) => Int.ofNat 0) 0 e) (↑x_2.i : Int) (Int.ofNat 0))
    (nN [(1, .pf (∃ (x_5 : Int), x_5 = lT (Cf.mk (Int.ofNat 1) (Int.ofNat 3) (Int.ofNat 1) (Int.ofNat 8) (Int.ofNat 4) (Int.ofNat 1) (Int.ofNat 1) (Int.ofNat 0) (Int.ofNat 1) 1 x.fst 0 x.snd.fst (fun (e : Nat) => 0) (fun (e : Nat) => x.snd.snd e) (fun (i e : Nat) => cO (fun (x : Nat) => Int.ofNat 0) 0 i e) (fun (i e : Nat) => cA (fun (x : Nat) => Int.ofNat 0) 0 i e) (fun (i e : Nat) => cB (fun (x : Nat) => Int.ofNat 0) 0 i e) (fun (e : Nat) => uP (fun (x : Nat) => Int.ofNat 0) 0 e) (fun (e : Nat) => uL (fun (x : Nat) => Int.ofNat 0) 0 e) fun (e : Nat) => uD (fun (x : Nat) => Int.ofNat 0) 0 e) + (↑x_2.i : Int) * Int.ofNat 5 + Int.ofNat 0) ⟨_, rfl⟩)]
    (V.any Int (fun (r : Int) => r = lT (Cf.mk (Int.ofNat 1) (Int.ofNat 3) (Int.ofNat 1) (Int.ofNat 8) (Int.ofNat 4) (Int.ofNat 1) (Int.ofNat 1) (Int.ofNat 0) (Int.ofNat 1) 1 x.fst 0 x.snd.fst (fun (e : Nat) => 0) (fun (e : Nat) => x.snd.snd e) (fun (i e : Nat) => cO (fun (x : Nat) => Int.ofNat 0) 0 i e) (fun (i e : Nat) => cA (fun (x : Nat) => Int.ofNat 0) 0 i e) (fun (i e : Nat) => cB (fun (x : Nat) => Int.ofNat 0) 0 i e) (fun (e : Nat) => uP (fun (x : Nat) => Int.ofNat 0) 0 e) (fun (e : Nat) => uL (fun (x : Nat) => Int.ofNat 0) 0 e) fun (e : Nat) => uD (fun (x : Nat) => Int.ofNat 0) 0 e) + (↑x_2.i : Int) * Int.ofNat 5 + Int.ofNat 0) fun (x_5 : Int) => nN [(1, .pf (x_5 = x_5) rfl), (1, .eqI 3 3), (1, .pf (x_4.lk = x_4.lk) rfl), (1, .pf (x_4.lc = x_4.lc) rfl), (1, .pf (x_4.lo = x_4.lo) rfl), (1, .pf (x_4.ln = x_4.ln) rfl), (1, .pf (x_4.ct = x_4.ct) rfl), (1, .eq 66 66), (1, .le 66 66), (1, .pf (∀ (e : Nat), e < 66 → x_4.g e = x_4.g e) (by intros; rfl)), (1, .pf (∃ (x : Mm), x = (Mm.mk (fun (e : Nat) => x_4.g e) x_4.lk x_4.lc x_4.lo x_4.ln x_4.ct).acc 66 (Int.ofNat 2) x_5 (Int.ofNat 3)) ⟨_, rfl⟩)]
    (V.any Mm (fun (m' : Mm) => m' = (Mm.mk (fun (e : Nat) => x_4.g e) x_4.lk x_4.lc x_4.lo x_4.ln x_4.ct).acc 66 (Int.ofNat 2) x_5 (Int.ofNat 3)) fun (x_6 : Mm) => V.br (decide (IntKind.i64.wrap ((↑x_2.i : Int) + Int.ofNat 1) < IntKind.i64.wrap (Int.ofNat 1 + min (↑len : Int) (Int.ofNat 7))))
    (nN [(14, .lt2 0 1 0 1), (1, .eqI 1 1), (1, .eqI 3 3), (1, .eqI 1 1), (1, .eqI 8 8), (1, .eqI 4 4), (2, .eqI 1 1), (1, .eqI 0 0), (1, .eqI 1 1), (1, .eq 1 1), (1, .pf (x.fst = x.fst) rfl), (1, .eq 0 0), (1, .pf (x.snd.fst = x.snd.fst) rfl), (1, .pf ((↑x_2.i : Int) = (↑x_2.i : Int)) rfl), (1, .eqI 3 3), (1, .le 1 1), (1, .pf (∀ (i : Nat), i < 1 → 1 ≤ 1) (by intros; exact Nat.le_refl _)), (1, .pf (∀ (i e : Nat), i < 1 ∧ e < 1 → e = e) (by intros; rfl)), (1, .pf (∀ (i e : Nat), i < 1 ∧ e < 1 → 0 = 0) (by intros; rfl)), (1, .pf (∀ (i e : Nat), i < 1 ∧ e < 1 → x.snd.snd e = x.snd.snd e) (by intros; rfl)), (1, .le 1 1), (1, .pf (∀ (i : Nat), i < 1 → 0 ≤ 0) (by intros; exact Nat.le_refl _)), (1, .pf (∀ (i e : Nat), i < 1 ∧ e < 0 → uP (fun (x : Nat) => Int.ofNat 0) 0 e = uP (fun (x : Nat) => Int.ofNat 0) 0 e) (by intros; rfl)), (1, .pf (∀ (i e : Nat), i < 1 ∧ e < 0 → uL (fun (x : Nat) => Int.ofNat 0) 0 e = uL (fun (x : Nat) => Int.ofNat 0) 0 e) (by intros; rfl)), (1, .pf (∀ (i e : Nat), i < 1 ∧ e < 0 → uD (fun (x : Nat) => Int.ofNat 0) 0 e = uD (fun (x : Nat) => Int.ofNat 0) 0 e) (by intros; rfl))]
    (V.need (∀ (i : Nat), i < 1 → 0 ≤ gd 1 (fun (x : Nat) => 0) i ∧ 0 ≤ gd 1 (fun (e : Nat) => x.snd.snd e) i)
    (nN [(1, .pf (∀ (i e : Nat), i < 1 ∧ e < 0 → cO (fun (x : Nat) => Int.ofNat 0) 0 i e = cO (fun (x : Nat) => Int.ofNat 0) 0 i e) (by intros; rfl)), (1, .pf (∀ (i e : Nat), i < 1 ∧ e < 0 → cA (fun (x : Nat) => Int.ofNat 0) 0 i e = cA (fun (x : Nat) => Int.ofNat 0) 0 i e) (by intros; rfl)), (1, .pf (∀ (i e : Nat), i < 1 ∧ e < 0 → cB (fun (x : Nat) => Int.ofNat 0) 0 i e = cB (fun (x : Nat) => Int.ofNat 0) 0 i e) (by intros; rfl))]
    (V.need (preTk (Cf.mk (Int.ofNat 1) (Int.ofNat 3) (Int.ofNat 1) (Int.ofNat 8) (Int.ofNat 4) (Int.ofNat 1) (Int.ofNat 1) (Int.ofNat 0) (Int.ofNat 1) 1 x.fst 0 x.snd.fst (fun (e : Nat) => 0) (fun (e : Nat) => x.snd.snd e) (fun (i e : Nat) => cO (fun (x : Nat) => Int.ofNat 0) 0 i e) (fun (i e : Nat) => cA (fun (x : Nat) => Int.ofNat 0) 0 i e) (fun (i e : Nat) => cB (fun (x : Nat) => Int.ofNat 0) 0 i e) (fun (e : Nat) => uP (fun (x : Nat) => Int.ofNat 0) 0 e) (fun (e : Nat) => uL (fun (x : Nat) => Int.ofNat 0) 0 e) fun (e : Nat) => uD (fun (x : Nat) => Int.ofNat 0) 0 e) (↑x_2.i : Int) (Int.ofNat 3))
    (nN [(1, .pf (∃ (x_7 : Int), x_7 = lT (Cf.mk (Int.ofNat 1) (Int.ofNat 3) (Int.ofNat 1) (Int.ofNat 8) (Int.ofNat 4) (Int.ofNat 1) (Int.ofNat 1) (Int.ofNat 0) (Int.ofNat 1) 1 x.fst 0 x.snd.fst (fun (e : Nat) => 0) (fun (e : Nat) => x.snd.snd e) (fun (i e : Nat) => cO (fun (x : Nat) => Int.ofNat 0) 0 i e) (fun (i e : Nat) => cA (fun (x : Nat) => Int.ofNat 0) 0 i e) (fun (i e : Nat) => cB (fun (x : Nat) => Int.ofNat 0) 0 i e) (fun (e : Nat) => uP (fun (x : Nat) => Int.ofNat 0) 0 e) (fun (e : Nat) => uL (fun (x : Nat) => Int.ofNat 0) 0 e) fun (e : Nat) => uD (fun (x : Nat) => Int.ofNat 0) 0 e) + (↑x_2.i : Int) * Int.ofNat 5 + Int.ofNat 3) ⟨_, rfl⟩)]
    (V.any Int (fun (r : Int) => r = lT (Cf.mk (Int.ofNat 1) (Int.ofNat 3) (Int.ofNat 1) (Int.ofNat 8) (Int.ofNat 4) (Int.ofNat 1) (Int.ofNat 1) (Int.ofNat 0) (Int.ofNat 1) 1 x.fst 0 x.snd.fst (fun (e : Nat) => 0) (fun (e : Nat) => x.snd.snd e) (fun (i e : Nat) => cO (fun (x : Nat) => Int.ofNat 0) 0 i e) (fun (i e : Nat) => cA (fun (x : Nat) => Int.ofNat 0) 0 i e) (fun (i e : Nat) => cB (fun (x : Nat) => Int.ofNat 0) 0 i e) (fun (e : Nat) => uP (fun (x : Nat) => Int.ofNat 0) 0 e) (fun (e : Nat) => uL (fun (x : Nat) => Int.ofNat 0) 0 e) fun (e : Nat) => uD (fun (x : Nat) => Int.ofNat 0) 0 e) + (↑x_2.i : Int) * Int.ofNat 5 + Int.ofNat 3) fun (x : Int) => nN [(1, .pf (x = x) rfl), (1, .pf (IntKind.u64.wrap (IntKind.i64.wrap ((↑x_2.i : Int) + Int.ofNat 2)) = IntKind.u64.wrap (IntKind.i64.wrap ((↑x_2.i : Int) + Int.ofNat 2))) rfl), (1, .pf (x_6.lk = x_6.lk) rfl), (1, .pf (x_6.lc = x_6.lc) rfl), (1, .pf (x_6.lo = x_6.lo) rfl), (1, .pf (x_6.ln = x_6.ln) rfl), (1, .pf (x_6.ct = x_6.ct) rfl), (1, .eq 66 66), (1, .le 66 66), (1, .pf (∀ (e : Nat), e < 66 → x_6.g e = x_6.g e) (by intros; rfl)), (1, .pf (∃ (x_7 : Mm), x_7 = (Mm.mk (fun (e : Nat) => x_6.g e) x_6.lk x_6.lc x_6.lo x_6.ln x_6.ct).acc 66 (Int.ofNat 2) x (IntKind.u64.wrap (IntKind.i64.wrap ((↑x_2.i : Int) + Int.ofNat 2)))) ⟨_, rfl⟩)]
    (V.any Mm (fun (m' : Mm) => m' = (Mm.mk (fun (e : Nat) => x_6.g e) x_6.lk x_6.lc x_6.lo x_6.ln x_6.ct).acc 66 (Int.ofNat 2) x (IntKind.u64.wrap (IntKind.i64.wrap ((↑x_2.i : Int) + Int.ofNat 2)))) fun (x : Mm) => V.need ((IntKind.i64.wrap ((↑x_2.i : Int) + Int.ofNat 1)).toNat ≤ nBl len ∧ (IntKind.i64.wrap ((↑x_2.q : Int) + Int.ofNat 1)).toNat = rais (to.tmod 3) (bfB g len) (IntKind.i64.wrap ((↑x_2.i : Int) + Int.ofNat 1)).toNat ∧ (∀ (u : Nat), x_2.a u = if u < (IntKind.i64.wrap ((↑x_2.i : Int) + Int.ofNat 1)).toNat then bfB g len u else Int.ofNat 0) ∧ ∀ (e : Nat), x.g e = mB (nBl len) (bfB g len) (IntKind.i64.wrap ((↑x_2.i : Int) + Int.ofNat 1)).toNat e)
    (V.need (nBl len - (IntKind.i64.wrap ((↑x_2.i : Int) + Int.ofNat 1)).toNat < nBl len - x_2.i)
    (V.need (IntKind.i64.wrap ((↑x_2.i : Int) + Int.ofNat 1) = (↑(IntKind.i64.wrap ((↑x_2.i : Int) + Int.ofNat 1)).toNat : Int))
    (V.need (IntKind.i64.wrap ((↑x_2.q : Int) + Int.ofNat 1) = (↑(IntKind.i64.wrap ((↑x_2.q : Int) + Int.ofNat 1)).toNat : Int))
    (nN [(1, .pf (x.lk = x.lk) rfl), (1, .pf (x.lc = x.lc) rfl), (1, .pf (x.lo = x.lo) rfl), (1, .pf (x.ln = x.ln) rfl), (1, .pf (x.ct = x.ct) rfl), (1, .eq 66 66), (1, .le 66 66), (1, .pf (∀ (e : Nat), e < 66 → x.g e = x.g e) (by intros; rfl)), (1, .eq 8 8), (1, .le 8 8), (1, .pf (∀ (e : Nat), e < 8 → x_2.a e = x_2.a e) (by intros; rfl))] V.ok)))))))))))
    (V.need ((IntKind.i64.wrap ((↑x_2.i : Int) + Int.ofNat 1)).toNat ≤ nBl len ∧ (IntKind.i64.wrap ((↑x_2.q : Int) + Int.ofNat 1)).toNat = rais (to.tmod 3) (bfB g len) (IntKind.i64.wrap ((↑x_2.i : Int) + Int.ofNat 1)).toNat ∧ (∀ (u : Nat), x_2.a u = if u < (IntKind.i64.wrap ((↑x_2.i : Int) + Int.ofNat 1)).toNat then bfB g len u else Int.ofNat 0) ∧ ∀ (e : Nat), x_6.g e = mB (nBl len) (bfB g len) (IntKind.i64.wrap ((↑x_2.i : Int) + Int.ofNat 1)).toNat e)
    (V.need (nBl len - (IntKind.i64.wrap ((↑x_2.i : Int) + Int.ofNat 1)).toNat < nBl len - x_2.i)
    (V.need (IntKind.i64.wrap ((↑x_2.i : Int) + Int.ofNat 1) = (↑(IntKind.i64.wrap ((↑x_2.i : Int) + Int.ofNat 1)).toNat : Int))
    (V.need (IntKind.i64.wrap ((↑x_2.q : Int) + Int.ofNat 1) = (↑(IntKind.i64.wrap ((↑x_2.q : Int) + Int.ofNat 1)).toNat : Int))
    (nN [(1, .pf (x_6.lk = x_6.lk) rfl), (1, .pf (x_6.lc = x_6.lc) rfl), (1, .pf (x_6.lo = x_6.lo) rfl), (1, .pf (x_6.ln = x_6.ln) rfl), (1, .pf (x_6.ct = x_6.ct) rfl), (1, .eq 66 66), (1, .le 66 66), (1, .pf (∀ (e : Nat), e < 66 → x_6.g e = x_6.g e) (by intros; rfl)), (1, .eq 8 8), (1, .le 8 8), (1, .pf (∀ (e : Nat), e < 8 → x_2.a e = x_2.a e) (by intros; rfl))] V.ok)))))))))))))))))))))
    (nN [(14, .lt2 0 1 0 1), (1, .eqI 1 1), (1, .eqI 3 3), (1, .eqI 1 1), (1, .eqI 8 8), (1, .eqI 4 4), (2, .eqI 1 1), (1, .eqI 0 0), (1, .eqI 1 1), (1, .eq 1 1), (1, .pf (x.fst = x.fst) rfl), (1, .eq 0 0), (1, .pf (x.snd.fst = x.snd.fst) rfl), (1, .pf ((↑x_2.i : Int) = (↑x_2.i : Int)) rfl), (1, .eqI 1 1), (1, .le 1 1), (1, .pf (∀ (i : Nat), i < 1 → 1 ≤ 1) (by intros; exact Nat.le_refl _)), (1, .pf (∀ (i e : Nat), i < 1 ∧ e < 1 → e = e) (by intros; rfl)), (1, .pf (∀ (i e : Nat), i < 1 ∧ e < 1 → 0 = 0) (by intros; rfl)), (1, .pf (∀ (i e : Nat), i < 1 ∧ e < 1 → x.snd.snd e = x.snd.snd e) (by intros; rfl)), (1, .le 1 1), (1, .pf (∀ (i : Nat), i < 1 → 0 ≤ 0) (by intros; exact Nat.le_refl _)), (1, .pf (∀ (i e : Nat), i < 1 ∧ e < 0 → uP (fun (x : Nat) => Int.ofNat 0) 0 e = uP (fun (x : Nat) => Int.ofNat 0) 0 e) (by intros; rfl)), (1, .pf (∀ (i e : Nat), i < 1 ∧ e < 0 → uL (fun (x : Nat) => Int.ofNat 0) 0 e = uL (fun (x : Nat) => Int.ofNat 0) 0 e) (by intros; rfl)), (1, .pf (∀ (i e : Nat), i < 1 ∧ e < 0 → uD (fun (x : Nat) => Int.ofNat 0) 0 e = uD (fun (x : Nat) => Int.ofNat 0) 0 e) (by intros; rfl))]
    (V.need (∀ (i : Nat), i < 1 → 0 ≤ gd 1 (fun (x : Nat) => 0) i ∧ 0 ≤ gd 1 (fun (e : Nat) => x.snd.snd e) i)
    (nN [(1, .pf (∀ (i e : Nat), i < 1 ∧ e < 0 → cO (fun (x : Nat) => Int.ofNat 0) 0 i e = cO (fun (x : Nat) => Int.ofNat 0) 0 i e) (by intros; rfl)), (1, .pf (∀ (i e : Nat), i < 1 ∧ e < 0 → cA (fun (x : Nat) => Int.ofNat 0) 0 i e = cA (fun (x : Nat) => Int.ofNat 0) 0 i e) (by intros; rfl)), (1, .pf (∀ (i e : Nat), i < 1 ∧ e < 0 → cB (fun (x : Nat) => Int.ofNat 0) 0 i e = cB (fun (x : Nat) => Int.ofNat 0) 0 i e) (by intros; rfl))]
    (V.need (preTk (Cf.mk (Int.ofNat 1) (Int.ofNat 3) (Int.ofNat 1) (Int.ofNat 8) (Int.ofNat 4) (Int.ofNat 1) (Int.ofNat 1) (Int.ofNat 0) (Int.ofNat 1) 1 x.fst 0 x.snd.fst (fun (e : Nat) => 0) (fun (e : Nat) => x.snd.snd e) (fun (i e : Nat) => cO (fun (x : Nat) => Int.ofNat 0) 0 i e) (fun (i e : Nat) => cA (fun (x : Nat) => Int.ofNat 0) 0 i e) (fun (i e : Nat) => cB (fun (x : Nat) => Int.ofNat 0) 0 i e) (fun (e : Nat) => uP (fun (x : Nat) => Int.ofNat 0) 0 e) (fun (e : Nat) => uL (fun (x : Nat) => Int.ofNat 0) 0 e) fun (e : Nat) => uD (fun (x : Nat) => Int.ofNat 0) 0 e) (↑x_2.i : Int) (Int.ofNat 1))
    (nN [(1, .pf (∃ (x_3 : Int), x_3 = lT (Cf.mk (Int.ofNat 1) (Int.ofNat 3) (Int.ofNat 1) (Int.ofNat 8) (Int.ofNat 4) (Int.ofNat 1) (Int.ofNat 1) (Int.ofNat 0) (Int.ofNat 1) 1 x.fst 0 x.snd.fst (fun (e : Nat) => 0) (fun (e : Nat) => x.snd.snd e) (fun (i e : Nat) => cO (fun (x : Nat) => Int.ofNat 0) 0 i e) (fun (i e : Nat) => cA (fun (x : Nat) => Int.ofNat 0) 0 i e) (fun (i e : Nat) => cB (fun (x : Nat) => Int.ofNat 0) 0 i e) (fun (e : Nat) => uP (fun (x : Nat) => Int.ofNat 0) 0 e) (fun (e : Nat) => uL (fun (x : Nat) => Int.ofNat 0) 0 e) fun (e : Nat) => uD (fun (x : Nat) => Int.ofNat 0) 0 e) + (↑x_2.i : Int) * Int.ofNat 5 + Int.ofNat 1) ⟨_, rfl⟩)]
    (V.any Int (fun (r : Int) => r = lT (Cf.mk (Int.ofNat 1) (Int.ofNat 3) (Int.ofNat 1) (Int.ofNat 8) (Int.ofNat 4) (Int.ofNat 1) (Int.ofNat 1) (Int.ofNat 0) (Int.ofNat 1) 1 x.fst 0 x.snd.fst (fun (e : Nat) => 0) (fun (e : Nat) => x.snd.snd e) (fun (i e : Nat) => cO (fun (x : Nat) => Int.ofNat 0) 0 i e) (fun (i e : Nat) => cA (fun (x : Nat) => Int.ofNat 0) 0 i e) (fun (i e : Nat) => cB (fun (x : Nat) => Int.ofNat 0) 0 i e) (fun (e : Nat) => uP (fun (x : Nat) => Int.ofNat 0) 0 e) (fun (e : Nat) => uL (fun (x : Nat) => Int.ofNat 0) 0 e) fun (e : Nat) => uD (fun (x : Nat) => Int.ofNat 0) 0 e) + (↑x_2.i : Int) * Int.ofNat 5 + Int.ofNat 1) fun (x_3 : Int) => V.need (Int.ofNat 0 ≤ (↑x_2.i : Int) ∧ (↑x_2.i : Int) < (↑8 : Int))
    (V.need (0 < 1 ∧ 0 + (↑x_2.i : Int).toNat < 8)
    (V.need (0 < 1 ∧ 0 + (↑x_2.i : Int).toNat < 8)
    (nN [(1, .pf (x_3 = x_3) rfl), (1, .pf (IntKind.u64.wrap (x_2.a (0 + (↑x_2.i : Int).toNat)) = IntKind.u64.wrap (x_2.a (0 + (↑x_2.i : Int).toNat))) rfl), (1, .pf (x_2.m.lk = x_2.m.lk) rfl), (1, .pf (x_2.m.lc = x_2.m.lc) rfl), (1, .pf (x_2.m.lo = x_2.m.lo) rfl), (1, .pf (x_2.m.ln = x_2.m.ln) rfl), (1, .pf (x_2.m.ct = x_2.m.ct) rfl), (1, .eq 66 66), (1, .le 66 66), (1, .pf (∀ (e : Nat), e < 66 → x_2.m.g e = x_2.m.g e) (by intros; rfl)), (1, .pf (∃ (x : Mm), x = (Mm.mk (fun (e : Nat) => x_2.m.g e) x_2.m.lk x_2.m.lc x_2.m.lo x_2.m.ln x_2.m.ct).acc 66 (Int.ofNat 2) x_3 (IntKind.u64.wrap (x_2.a (0 + (↑x_2.i : Int).toNat)))) ⟨_, rfl⟩)]
    (V.any Mm (fun (m' : Mm) => m' = (Mm.mk (fun (e : Nat) => x_2.m.g e) x_2.m.lk x_2.m.lc x_2.m.lo x_2.m.ln x_2.m.ct).acc 66 (Int.ofNat 2) x_3 (IntKind.u64.wrap (x_2.a (0 + (↑x_2.i : Int).toNat)))) fun (x_4 : Mm) => nN [(14, .lt2 0 1 0 1), (1, .eqI 1 1), (1, .eqI 3 3), (1, .eqI 1 1), (1, .eqI 8 8), (1, .eqI 4 4), (2, .eqI 1 1), (1, .eqI 0 0), (1, .eqI 1 1), (1, .eq 1 1), (1, .pf (x.fst = x.fst) rfl), (1, .eq 0 0), (1, .pf (x.snd.fst = x.snd.fst) rfl), (1, .pf ((↑x_2.i : Int) = (↑x_2.i : Int)) rfl), (1, .eqI 0 0), (1, .le 1 1), (1, .pf (∀ (i : Nat), i < 1 → 1 ≤ 1) (by intros; exact Nat.le_refl _)), (1, .pf (∀ (i e : Nat), i < 1 ∧ e < 1 → e = e) (by intros; rfl)), (1, .pf (∀ (i e : Nat), i < 1 ∧ e < 1 → 0 = 0) (by intros; rfl)), (1, .pf (∀ (i e : Nat), i < 1 ∧ e < 1 → x.snd.snd e = x.snd.snd e) (by intros; rfl)), (1, .le 1 1), (1, .pf (∀ (i : Nat), i < 1 → 0 ≤ 0) (by intros; exact Nat.le_refl _)), (1, .pf (∀ (i e : Nat), i < 1 ∧ e < 0 → uP (fun (x : Nat) => Int.ofNat 0) 0 e = uP (fun (x : Nat) => Int.ofNat 0) 0 e) (by intros; rfl)), (1, .pf (∀ (i e : Nat), i < 1 ∧ e < 0 → uL (fun (x : Nat) => Int.ofNat 0) 0 e = uL (fun (x : Nat) => Int.ofNat 0) 0 e) (by intros; rfl)), (1, .pf (∀ (i e : Nat), i < 1 ∧ e < 0 → uD (fun (x : Nat) => Int.ofNat 0) 0 e = uD (fun (x : Nat) => Int.ofNat 0) 0 e) (by intros; rfl))]
    (V.need (∀ (i : Nat), i < 1 → 0 ≤ gd 1 (fun (x : Nat) => 0) i ∧ 0 ≤ gd 1 (fun (e : Nat) => x.snd.snd e) i)
    (nN [(1, .pf (∀ (i e : Nat), i < 1 ∧ e < 0 → cO (fun (x : Nat) => Int.ofNat 0) 0 i e = cO (fun (x : Nat) => Int.ofNat 0) 0 i e) (by intros; rfl)), (1, .pf (∀ (i e : Nat), i < 1 ∧ e < 0 → cA (fun (x : Nat) => Int.ofNat 0) 0 i e = cA (fun (x : Nat) => Int.ofNat 0) 0 i e) (by intros; rfl)), (1, .pf (∀ (i e : Nat), i < 1 ∧ e < 0 → cB (fun (x : Nat) => Int.ofNat 0) 0 i e = cB (fun (x : Nat) => Int.ofNat 0) 0 i e) (by intros; rfl))]
    (V.need (preTk (Cf.mk (Int.ofNat 1) (Int.ofNat 3) (Int.ofNat 1) (Int.ofNat 8) (Int.ofNat 4) (Int.ofNat 1) (Int.ofNat 1) (Int.ofNat 0) (Int.ofNat 1) 1 x.fst 0 x.snd.fst (fun (e : Nat) => 0) (fun (e : Nat) => x.snd.snd e) (fun (i e : Nat) => cO (fun (x : Nat) => Int.ofNat 0) 0 i e) (fun (i e : Nat) => cA (fun (x : Nat) => Int.ofNat 0) 0 i e) (fun (i e : Nat) => cB (fun (x : Nat) => Int.ofNat 0) 0 i e) (fun (e : Nat) => uP (fun (x : Nat) => Int.ofNat 0) 0 e) (fun (e : Nat) => uL (fun (x : Nat) => Int.ofNat 0) 0 e) fun (e : Nat) => uD (fun (x : Nat) => Int.ofNat 0) 0 e) (↑x_2.i : Int) (Int.ofNat 0))
    (nN [(1, .pf (∃ (x_5 : Int), x_5 = lT (Cf.mk (Int.ofNat 1) (Int.ofNat 3) (Int.ofNat 1) (Int.ofNat 8) (Int.ofNat 4) (Int.ofNat 1) (Int.ofNat 1) (Int.ofNat 0) (Int.ofNat 1) 1 x.fst 0 x.snd.fst (fun (e : Nat) => 0) (fun (e : Nat) => x.snd.snd e) (fun (i e : Nat) => cO (fun (x : Nat) => Int.ofNat 0) 0 i e) (fun (i e : Nat) => cA (fun (x : Nat) => Int.ofNat 0) 0 i e) (fun (i e : Nat) => cB (fun (x : Nat) => Int.ofNat 0) 0 i e) (fun (e : Nat) => uP (fun (x : Nat) => Int.ofNat 0) 0 e) (fun (e : Nat) => uL (fun (x : Nat) => Int.ofNat 0) 0 e) fun (e : Nat) => uD (fun (x : Nat) => Int.ofNat 0) 0 e) + (↑x_2.i : Int) * Int.ofNat 5 + Int.ofNat 0) ⟨_, rfl⟩)]
    (V.any Int (fun (r : Int) => r = lT (Cf.mk (Int.ofNat 1) (Int.ofNat 3) (Int.ofNat 1) (Int.ofNat 8) (Int.ofNat 4) (Int.ofNat 1) (Int.ofNat 1) (Int.ofNat 0) (Int.ofNat 1) 1 x.fst 0 x.snd.fst (fun (e : Nat) => 0) (fun (e : Nat) => x.snd.snd e) (fun (i e : Nat) => cO (fun (x : Nat) => Int.ofNat 0) 0 i e) (fun (i e : Nat) => cA (fun (x : Nat) => Int.ofNat 0) 0 i e) (fun (i e : Nat) => cB (fun (x : Nat) => Int.ofNat 0) 0 i e) (fun (e : Nat) => uP (fun (x : Nat) => Int.ofNat 0) 0 e) (fun (e : Nat) => uL (fun (x : Nat) => Int.ofNat 0) 0 e) fun (e : Nat) => uD (fun (x : Nat) => Int.ofNat 0) 0 e) + (↑x_2.i : Int) * Int.ofNat 5 + Int.ofNat 0) fun (x_5 : Int) => nN [(1, .pf (x_5 = x_5) rfl), (1, .eqI 3 3), (1, .pf (x_4.lk = x_4.lk) rfl), (1, .pf (x_4.lc = x_4.lc) rfl), (1, .pf (x_4.lo = x_4.lo) rfl), (1, .pf (x_4.ln = x_4.ln) rfl), (1, .pf (x_4.ct = x_4.ct) rfl), (1, .eq 66 66), (1, .le 66 66), (1, .pf (∀ (e : Nat), e < 66 → x_4.g e = x_4.g e) (by intros; rfl)), (1, .pf (∃ (x : Mm), x = (Mm.mk (fun (e : Nat) => x_4.g e) x_4.lk x_4.lc x_4.lo x_4.ln x_4.ct).acc 66 (Int.ofNat 2) x_5 (Int.ofNat 3)) ⟨_, rfl⟩)]
    (V.any Mm (fun (m' : Mm) => m' = (Mm.mk (fun (e : Nat) => x_4.g e) x_4.lk x_4.lc x_4.lo x_4.ln x_4.ct).acc 66 (Int.ofNat 2) x_5 (Int.ofNat 3)) fun (x_6 : Mm) => V.br (decide (IntKind.i64.wrap ((↑x_2.i : Int) + Int.ofNat 1) < IntKind.i64.wrap (Int.ofNat 1 + min (↑len : Int) (Int.ofNat 7))))
    (nN [(14, .lt2 0 1 0 1), (1, .eqI 1 1), (1, .eqI 3 3), (1, .eqI 1 1), (1, .eqI 8 8), (1, .eqI 4 4), (2, .eqI 1 1), (1, .eqI 0 0), (1, .eqI 1 1), (1, .eq 1 1), (1, .pf (x.fst = x.fst) rfl), (1, .eq 0 0), (1, .pf (x.snd.fst = x.snd.fst) rfl), (1, .pf ((↑x_2.i : Int) = (↑x_2.i : Int)) rfl), (1, .eqI 3 3), (1, .le 1 1), (1, .pf (∀ (i : Nat), i < 1 → 1 ≤ 1) (by intros; exact Nat.le_refl _)), (1, .pf (∀ (i e : Nat), i < 1 ∧ e < 1 → e = e) (by intros; rfl)), (1, .pf (∀ (i e : Nat), i < 1 ∧ e < 1 → 0 = 0) (by intros; rfl)), (1, .pf (∀ (i e : Nat), i < 1 ∧ e < 1 → x.snd.snd e = x.snd.snd e) (by intros; rfl)), (1, .le 1 1), (1, .pf (∀ (i : Nat), i < 1 → 0 ≤ 0) (by intros; exact Nat.le_refl _)), (1, .pf (∀ (i e : Nat), i < 1 ∧ e < 0 → uP (fun (x : Nat) => Int.ofNat 0) 0 e = uP (fun (x : Nat) => Int.ofNat 0) 0 e) (by intros; rfl)), (1, .pf (∀ (i e : Nat), i < 1 ∧ e < 0 → uL (fun (x : Nat) => Int.ofNat 0) 0 e = uL (fun (x : Nat) => Int.ofNat 0) 0 e) (by intros; rfl)), (1, .pf (∀ (i e : Nat), i < 1 ∧ e < 0 → uD (fun (x : Nat) => Int.ofNat 0) 0 e = uD (fun (x : Nat) => Int.ofNat 0) 0 e) (by intros; rfl))]
    (V.need (∀ (i : Nat), i < 1 → 0 ≤ gd 1 (fun (x : Nat) => 0) i ∧ 0 ≤ gd 1 (fun (e : Nat) => x.snd.snd e) i)
    (nN [(1, .pf (∀ (i e : Nat), i < 1 ∧ e < 0 → cO (fun (x : Nat) => Int.ofNat 0) 0 i e = cO (fun (x : Nat) => Int.ofNat 0) 0 i e) (by intros; rfl)), (1, .pf (∀ (i e : Nat), i < 1 ∧ e < 0 → cA (fun (x : Nat) => Int.ofNat 0) 0 i e = cA (fun (x : Nat) => Int.ofNat 0) 0 i e) (by intros; rfl)), (1, .pf (∀ (i e : Nat), i < 1 ∧ e < 0 → cB (fun (x : Nat) => Int.ofNat 0) 0 i e = cB (fun (x : Nat) => Int.ofNat 0) 0 i e) (by intros; rfl))]
    (V.need (preTk (Cf.mk (Int.ofNat 1) (Int.ofNat 3) (Int.ofNat 1) (Int.ofNat 8) (Int.ofNat 4) (Int.ofNat 1) (Int.ofNat 1) (Int.ofNat 0) (Int.ofNat 1) 1 x.fst 0 x.snd.fst (fun (e : Nat) => 0) (fun (e : Nat) => x.snd.snd e) (fun (i e : Nat) => cO (fun (x : Nat) => Int.ofNat 0) 0 i e) (fun (i e : Nat) => cA (fun (x : Nat) => Int.ofNat 0) 0 i e) (fun (i e : Nat) => cB (fun (x : Nat) => Int.ofNat 0) 0 i e) (fun (e : Nat) => uP (fun (x : Nat) => Int.ofNat 0) 0 e) (fun (e : Nat) => uL (fun (x : Nat) => Int.ofNat 0) 0 e) fun (e : Nat) => uD (fun (x : Nat) => Int.ofNat 0) 0 e) (↑x_2.i : Int) (Int.ofNat 3))
    (nN [(1, .pf (∃ (x_7 : Int), x_7 = lT (Cf.mk (Int.ofNat 1) (Int.ofNat 3) (Int.ofNat 1) (Int.ofNat 8) (Int.ofNat 4) (Int.ofNat 1) (Int.ofNat 1) (Int.ofNat 0) (Int.ofNat 1) 1 x.fst 0 x.snd.fst (fun (e : Nat) => 0) (fun (e : Nat) => x.snd.snd e) (fun (i e : Nat) => cO (fun (x : Nat) => Int.ofNat 0) 0 i e) (fun (i e : Nat) => cA (fun (x : Nat) => Int.ofNat 0) 0 i e) (fun (i e : Nat) => cB (fun (x : Nat) => Int.ofNat 0) 0 i e) (fun (e : Nat) => uP (fun (x : Nat) => Int.ofNat 0) 0 e) (fun (e : Nat) => uL (fun (x : Nat) => Int.ofNat 0) 0 e) fun (e : Nat) => uD (fun (x : Nat) => Int.ofNat 0) 0 e) + (↑x_2.i : Int) * Int.ofNat 5 + Int.ofNat 3) ⟨_, rfl⟩)]
    (V.any Int (fun (r : Int) => r = lT (Cf.mk (Int.ofNat 1) (Int.ofNat 3) (Int.ofNat 1) (Int.ofNat 8) (Int.ofNat 4) (Int.ofNat 1) (Int.ofNat 1) (Int.ofNat 0) (Int.ofNat 1) 1 x.fst 0 x.snd.fst (fun (e : Nat) => 0) (fun (e : Nat) => x.snd.snd e) (fun (i e : Nat) => cO (fun (x : Nat) => Int.ofNat 0) 0 i e) (fun (i e : Nat) => cA (fun (x : Nat) => Int.ofNat 0) 0 i e) (fun (i e : Nat) => cB (fun (x : Nat) => Int.ofNat 0) 0 i e) (fun (e : Nat) => uP (fun (x : Nat) => Int.ofNat 0) 0 e) (fun (e : Nat) => uL (fun (x : Nat) => Int.ofNat 0) 0 e) fun (e : Nat) => uD (fun (x : Nat) => Int.ofNat 0) 0 e) + (↑x_2.i : Int) * Int.ofNat 5 + Int.ofNat 3) fun (x : Int) => nN [(1, .pf (x = x) rfl), (1, .pf (IntKind.u64.wrap (IntKind.i64.wrap ((↑x_2.i : Int) + Int.ofNat 2)) = IntKind.u64.wrap (IntKind.i64.wrap ((↑x_2.i : Int) + Int.ofNat 2))) rfl), (1, .pf (x_6.lk = x_6.lk) rfl), (1, .pf (x_6.lc = x_6.lc) rfl), (1, .pf (x_6.lo = x_6.lo) rfl), (1, .pf (x_6.ln = x_6.ln) rfl), (1, .pf (x_6.ct = x_6.ct) rfl), (1, .eq 66 66), (1, .le 66 66), (1, .pf (∀ (e : Nat), e < 66 → x_6.g e = x_6.g e) (by intros; rfl)), (1, .pf (∃ (x_7 : Mm), x_7 = (Mm.mk (fun (e : Nat) => x_6.g e) x_6.lk x_6.lc x_6.lo x_6.ln x_6.ct).acc 66 (Int.ofNat 2) x (IntKind.u64.wrap (IntKind.i64.wrap ((↑x_2.i : Int) + Int.ofNat 2)))) ⟨_, rfl⟩)]
    (V.any Mm (fun (m' : Mm) => m' = (Mm.mk (fun (e : Nat) => x_6.g e) x_6.lk x_6.lc x_6.lo x_6.ln x_6.ct).acc 66 (Int.ofNat 2) x (IntKind.u64.wrap (IntKind.i64.wrap ((↑x_2.i : Int) + Int.ofNat 2)))) fun (x : Mm) => V.need ((IntKind.i64.wrap ((↑x_2.i : Int) + Int.ofNat 1)).toNat ≤ nBl len ∧ (↑x_2.q : Int).toNat = rais (to.tmod 3) (bfB g len) (IntKind.i64.wrap ((↑x_2.i : Int) + Int.ofNat 1)).toNat ∧ (∀ (u : Nat), x_2.a u = if u < (IntKind.i64.wrap ((↑x_2.i : Int) + Int.ofNat 1)).toNat then bfB g len u else Int.ofNat 0) ∧ ∀ (e : Nat), x.g e = mB (nBl len) (bfB g len) (IntKind.i64.wrap ((↑x_2.i : Int) + Int.ofNat 1)).toNat e)
    (V.need (nBl len - (IntKind.i64.wrap ((↑x_2.i : Int) + Int.ofNat 1)).toNat < nBl len - x_2.i)
    (V.need (IntKind.i64.wrap ((↑x_2.i : Int) + Int.ofNat 1) = (↑(IntKind.i64.wrap ((↑x_2.i : Int) + Int.ofNat 1)).toNat : Int))
    (V.need ((↑x_2.q : Int) = (↑(↑x_2.q : Int).toNat : Int))
    (nN [(1, .pf (x.lk = x.lk) rfl), (1, .pf (x.lc = x.lc) rfl), (1, .pf (x.lo = x.lo) rfl), (1, .pf (x.ln = x.ln) rfl), (1, .pf (x.ct = x.ct) rfl), (1, .eq 66 66), (1, .le 66 66), (1, .pf (∀ (e : Nat), e < 66 → x.g e = x.g e) (by intros; rfl)), (1, .eq 8 8), (1, .le 8 8), (1, .pf (∀ (e : Nat), e < 8 → x_2.a e = x_2.a e) (by intros; rfl))] V.ok)))))))))))
    (V.need ((IntKind.i64.wrap ((↑x_2.i : Int) + Int.ofNat 1)).toNat ≤ nBl len ∧ (↑x_2.q : Int).toNat = rais (to.tmod 3) (bfB g len) (IntKind.i64.wrap ((↑x_2.i : Int) + Int.ofNat 1)).toNat ∧ (∀ (u : Nat), x_2.a u = if u < (IntKind.i64.wrap ((↑x_2.i : Int) + Int.ofNat 1)).toNat then bfB g len u else Int.ofNat 0) ∧ ∀ (e : Nat), x_6.g e = mB (nBl len) (bfB g len) (IntKind.i64.wrap ((↑x_2.i : Int) + Int.ofNat 1)).toNat e)
    (V.need (nBl len - (IntKind.i64.wrap ((↑x_2.i : Int) + Int.ofNat 1)).toNat < nBl len - x_2.i)
    (V.need (IntKind.i64.wrap ((↑x_2.i : Int) + Int.ofNat 1) = (↑(IntKind.i64.wrap ((↑x_2.i : Int) + Int.ofNat 1)).toNat : Int))
    (V.need ((↑x_2.q : Int) = (↑(↑x_2.q : Int).toNat : Int))
    (nN [(1, .pf (x_6.lk = x_6.lk) rfl), (1, .pf (x_6.lc = x_6.lc) rfl), (1, .pf (x_6.lo = x_6.lo) rfl), (1, .pf (x_6.ln = x_6.ln) rfl), (1, .pf (x_6.ct = x_6.ct) rfl), (1, .eq 66 66), (1, .le 66 66), (1, .pf (∀ (e : Nat), e < 66 → x_6.g e = x_6.g e) (by intros; rfl)), (1, .eq 8 8), (1, .le 8 8), (1, .pf (∀ (e : Nat), e < 8 → x_2.a e = x_2.a e) (by intros; rfl))] V.ok))))))))))))))))))))))))))
    (V.br rd
    (nN [(14, .lt2 0 1 0 1), (1, .eqI 1 1), (1, .eqI 3 3), (1, .eqI 1 1), (1, .eqI 8 8), (1, .eqI 4 4), (2, .eqI 1 1), (1, .eqI 0 0), (1, .eqI 1 1), (1, .eq 1 1), (1, .pf (x.fst = x.fst) rfl), (1, .eq 0 0), (1, .pf (x.snd.fst = x.snd.fst) rfl), (1, .pf (IntKind.i64.wrap (IntKind.i64.wrap (Int.ofNat 1 + min (↑len : Int) (Int.ofNat 7)) - Int.ofNat 1) = IntKind.i64.wrap (IntKind.i64.wrap (Int.ofNat 1 + min (↑len : Int) (Int.ofNat 7)) - Int.ofNat 1)) rfl), (1, .eqI 0 0), (1, .le 1 1), (1, .pf (∀ (i : Nat), i < 1 → 1 ≤ 1) (by intros; exact Nat.le_refl _)), (1, .pf (∀ (i e : Nat), i < 1 ∧ e < 1 → e = e) (by intros; rfl)), (1, .pf (∀ (i e : Nat), i < 1 ∧ e < 1 → 0 = 0) (by intros; rfl)), (1, .pf (∀ (i e : Nat), i < 1 ∧ e < 1 → x.snd.snd e = x.snd.snd e) (by intros; rfl)), (1, .le 1 1), (1, .pf (∀ (i : Nat), i < 1 → 0 ≤ 0) (by intros; exact Nat.le_refl _)), (1, .pf (∀ (i e : Nat), i < 1 ∧ e < 0 → uP (fun (x : Nat) => Int.ofNat 0) 0 e = uP (fun (x : Nat) => Int.ofNat 0) 0 e) (by intros; rfl)), (1, .pf (∀ (i e : Nat), i < 1 ∧ e < 0 → uL (fun (x : Nat) => Int.ofNat 0) 0 e = uL (fun (x : Nat) => Int.ofNat 0) 0 e) (by intros; rfl)), (1, .pf (∀ (i e : Nat), i < 1 ∧ e < 0 → uD (fun (x : Nat) => Int.ofNat 0) 0 e = uD (fun (x : Nat) => Int.ofNat 0) 0 e) (by intros; rfl))]
    (V.need (∀ (i : Nat), i < 1 → 0 ≤ gd 1 (fun (x : Nat) => 0) i ∧ 0 ≤ gd 1 (fun (e : Nat) => x.snd.snd e) i)
    (nN [(1, .pf (∀ (i e : Nat), i < 1 ∧ e < 0 → cO (fun (x : Nat) => Int.ofNat 0) 0 i e = cO (fun (x : Nat) => Int.ofNat 0) 0 i e) (by intros; rfl)), (1, .pf (∀ (i e : Nat), i < 1 ∧ e < 0 → cA (fun (x : Nat) => Int.ofNat 0) 0 i e = cA (fun (x : Nat) => Int.ofNat 0) 0 i e) (by intros; rfl)), (1, .pf (∀ (i e : Nat), i < 1 ∧ e < 0 → cB (fun (x : Nat) => Int.ofNat 0) 0 i e = cB (fun (x : Nat) => Int.ofNat 0) 0 i e) (by intros; rfl))]
    (V.need (preTk (Cf.mk (Int.ofNat 1) (Int.ofNat 3) (Int.ofNat 1) (Int.ofNat 8) (Int.ofNat 4) (Int.ofNat 1) (Int.ofNat 1) (Int.ofNat 0) (Int.ofNat 1) 1 x.fst 0 x.snd.fst (fun (e : Nat) => 0) (fun (e : Nat) => x.snd.snd e) (fun (i e : Nat) => cO (fun (x : Nat) => Int.ofNat 0) 0 i e) (fun (i e : Nat) => cA (fun (x : Nat) => Int.ofNat 0) 0 i e) (fun (i e : Nat) => cB (fun (x : Nat) => Int.ofNat 0) 0 i e) (fun (e : Nat) => uP (fun (x : Nat) => Int.ofNat 0) 0 e) (fun (e : Nat) => uL (fun (x : Nat) => Int.ofNat 0) 0 e) fun (e : Nat) => uD (fun (x : Nat) => Int.ofNat 0) 0 e) (IntKind.i64.wrap (IntKind.i64.wrap (Int.ofNat 1 + min (↑len : Int) (Int.ofNat 7)) - Int.ofNat 1)) (Int.ofNat 0))
    (nN [(1, .pf (∃ (x_3 : Int), x_3 = lT (Cf.mk (Int.ofNat 1) (Int.ofNat 3) (Int.ofNat 1) (Int.ofNat 8) (Int.ofNat 4) (Int.ofNat 1) (Int.ofNat 1) (Int.ofNat 0) (Int.ofNat 1) 1 x.fst 0 x.snd.fst (fun (e : Nat) => 0) (fun (e : Nat) => x.snd.snd e) (fun (i e : Nat) => cO (fun (x : Nat) => Int.ofNat 0) 0 i e) (fun (i e : Nat) => cA (fun (x : Nat) => Int.ofNat 0) 0 i e) (fun (i e : Nat) => cB (fun (x : Nat) => Int.ofNat 0) 0 i e) (fun (e : Nat) => uP (fun (x : Nat) => Int.ofNat 0) 0 e) (fun (e : Nat) => uL (fun (x : Nat) => Int.ofNat 0) 0 e) fun (e : Nat) => uD (fun (x : Nat) => Int.ofNat 0) 0 e) + IntKind.i64.wrap (IntKind.i64.wrap (Int.ofNat 1 + min (↑len : Int) (Int.ofNat 7)) - Int.ofNat 1) * Int.ofNat 5 + Int.ofNat 0) ⟨_, rfl⟩)]
    (V.any Int (fun (r : Int) => r = lT (Cf.mk (Int.ofNat 1) (Int.ofNat 3) (Int.ofNat 1) (Int.ofNat 8) (Int.ofNat 4) (Int.ofNat 1) (Int.ofNat 1) (Int.ofNat 0) (Int.ofNat 1) 1 x.fst 0 x.snd.fst (fun (e : Nat) => 0) (fun (e : Nat) => x.snd.snd e) (fun (i e : Nat) => cO (fun (x : Nat) => Int.ofNat 0) 0 i e) (fun (i e : Nat) => cA (fun (x : Nat) => Int.ofNat 0) 0 i e) (fun (i e : Nat) => cB (fun (x : Nat) => Int.ofNat 0) 0 i e) (fun (e : Nat) => uP (fun (x : Nat) => Int.ofNat 0) 0 e) (fun (e : Nat) => uL (fun (x : Nat) => Int.ofNat 0) 0 e) fun (e : Nat) => uD (fun (x : Nat) => Int.ofNat 0) 0 e) + IntKind.i64.wrap (IntKind.i64.wrap (Int.ofNat 1 + min (↑len : Int) (Int.ofNat 7)) - Int.ofNat 1) * Int.ofNat 5 + Int.ofNat 0) fun (x_3 : Int) => nN [(1, .pf (x_3 = x_3) rfl), (1, .eqI 1 1), (1, .pf (x_2.m.lk = x_2.m.lk) rfl), (1, .pf (x_2.m.lc = x_2.m.lc) rfl), (1, .pf (x_2.m.lo = x_2.m.lo) rfl), (1, .pf (x_2.m.ln = x_2.m.ln) rfl), (1, .pf (x_2.m.ct = x_2.m.ct) rfl), (1, .eq 66 66), (1, .le 66 66), (1, .pf (∀ (e : Nat), e < 66 → x_2.m.g e = x_2.m.g e) (by intros; rfl)), (1, .pf (∃ (x : Mm), x = (Mm.mk (fun (e : Nat) => x_2.m.g e) x_2.m.lk x_2.m.lc x_2.m.lo x_2.m.ln x_2.m.ct).acc 66 (Int.ofNat 2) x_3 (Int.ofNat 1)) ⟨_, rfl⟩)]
    (V.any Mm (fun (m' : Mm) => m' = (Mm.mk (fun (e : Nat) => x_2.m.g e) x_2.m.lk x_2.m.lc x_2.m.lo x_2.m.ln x_2.m.ct).acc 66 (Int.ofNat 2) x_3 (Int.ofNat 1)) fun (x_4 : Mm) => nN [(1, .eqI 200 200), (2, .eq 0 0), (1, .pf (x_4.lk = x_4.lk) rfl), (1, .pf (x_4.lc = x_4.lc) rfl), (1, .pf (x_4.lo = x_4.lo) rfl), (1, .pf (x_4.ln = x_4.ln) rfl), (1, .pf (x_4.ct = x_4.ct) rfl), (1, .eq 66 66), (1, .le 66 66), (1, .pf (∀ (e : Nat), e < 66 → x_4.g e = x_4.g e) (by intros; rfl)), (1, .eqI 0 0), (1, .pf (IntKind.i64.wrap (to.tmod (Int.ofNat 3)) = IntKind.i64.wrap (to.tmod (Int.ofNat 3))) rfl), (1, .eq 0 0), (1, .le 0 0), (5, .pf (∀ (e : Nat), e < 0 → Int.ofNat 0 = Int.ofNat 0) (by intros; rfl))]
    (V.need (preBc (nBl len) (Int.ofNat 0) (IntKind.i64.wrap (to.tmod (Int.ofNat 3))) (bfB g len) rd (Mm.mk (fun (e : Nat) => x_4.g e) x_4.lk x_4.lc x_4.lo x_4.ln x_4.ct) (El.mk 0 (Evs.mk (fun (i : Nat) => Int.ofNat 0) (fun (i : Nat) => Int.ofNat 0) (fun (i : Nat) => Int.ofNat 0) (fun (i : Nat) => Int.ofNat 0) fun (i : Nat) => Int.ofNat 0)) 0)
    (V.need (∃ (x : Re × Nat), φBc (nBl len) (IntKind.i64.wrap (to.tmod (Int.ofNat 3))) (bfB g len) rd x)
    (V.any (Re × Nat) (φBc (nBl len) (IntKind.i64.wrap (to.tmod (Int.ofNat 3))) (bfB g len) rd) fun (x_5 : Re × Nat) => V.br (x_5.fst.c != Int.ofNat 0)
    (V.bad 420)
    (V.br ((↑x_5.fst.l.n : Int) != (↑x_2.q : Int))
    (V.bad 420)
    (V.need (Nat.le 0 8)
    (V.need (Int.ofNat 0 = (↑0 : Int))
    (V.any Nat (fun (j : Nat) => j ≤ 8) fun (x_6 : Nat) => nN [(2, .lt2 0 1 0 1)]
    (V.br (decide ((↑x_6 : Int) < Int.ofNat 8))
    (nN [(14, .lt2 0 1 0 1), (1, .eqI 1 1), (1, .eqI 3 3), (1, .eqI 1 1), (1, .eqI 8 8), (1, .eqI 4 4), (2, .eqI 1 1), (1, .eqI 0 0), (1, .eqI 1 1), (1, .eq 1 1), (1, .pf (x.fst = x.fst) rfl), (1, .eq 0 0), (1, .pf (x.snd.fst = x.snd.fst) rfl), (1, .pf ((↑x_6 : Int) = (↑x_6 : Int)) rfl), (1, .eqI 1 1), (1, .le 1 1), (1, .pf (∀ (i : Nat), i < 1 → 1 ≤ 1) (by intros; exact Nat.le_refl _)), (1, .pf (∀ (i e : Nat), i < 1 ∧ e < 1 → e = e) (by intros; rfl)), (1, .pf (∀ (i e : Nat), i < 1 ∧ e < 1 → 0 = 0) (by intros; rfl)), (1, .pf (∀ (i e : Nat), i < 1 ∧ e < 1 → x.snd.snd e = x.snd.snd e) (by intros; rfl)), (1, .le 1 1), (1, .pf (∀ (i : Nat), i < 1 → 0 ≤ 0) (by intros; exact Nat.le_refl _)), (1, .pf (∀ (i e : Nat), i < 1 ∧ e < 0 → uP (fun (x : Nat) => Int.ofNat 0) 0 e = uP (fun (x : Nat) => Int.ofNat 0) 0 e) (by intros; rfl)), (1, .pf (∀ (i e : Nat), i < 1 ∧ e < 0 → uL (fun (x : Nat) => Int.ofNat 0) 0 e = uL (fun (x : Nat) => Int.ofNat 0) 0 e) (by intros; rfl)), (1, .pf (∀ (i e : Nat), i < 1 ∧ e < 0 → uD (fun (x : Nat) => Int.ofNat 0) 0 e = uD (fun (x : Nat) => Int.ofNat 0) 0 e) (by intros; rfl))]
    (V.need (∀ (i : Nat), i < 1 → 0 ≤ gd 1 (fun (x : Nat) => 0) i ∧ 0 ≤ gd 1 (fun (e : Nat) => x.snd.snd e) i)
    (nN [(1, .pf (∀ (i e : Nat), i < 1 ∧ e < 0 → cO (fun (x : Nat) => Int.ofNat 0) 0 i e = cO (fun (x : Nat) => Int.ofNat 0) 0 i e) (by intros; rfl)), (1, .pf (∀ (i e : Nat), i < 1 ∧ e < 0 → cA (fun (x : Nat) => Int.ofNat 0) 0 i e = cA (fun (x : Nat) => Int.ofNat 0) 0 i e) (by intros; rfl)), (1, .pf (∀ (i e : Nat), i < 1 ∧ e < 0 → cB (fun (x : Nat) => Int.ofNat 0) 0 i e = cB (fun (x : Nat) => Int.ofNat 0) 0 i e) (by intros; rfl))]
    (V.need (preTk (Cf.mk (Int.ofNat 1) (Int.ofNat 3) (Int.ofNat 1) (Int.ofNat 8) (Int.ofNat 4) (Int.ofNat 1) (Int.ofNat 1) (Int.ofNat 0) (Int.ofNat 1) 1 x.fst 0 x.snd.fst (fun (e : Nat) => 0) (fun (e : Nat) => x.snd.snd e) (fun (i e : Nat) => cO (fun (x : Nat) => Int.ofNat 0) 0 i e) (fun (i e : Nat) => cA (fun (x : Nat) => Int.ofNat 0) 0 i e) (fun (i e : Nat) => cB (fun (x : Nat) => Int.ofNat 0) 0 i e) (fun (e : Nat) => uP (fun (x : Nat) => Int.ofNat 0) 0 e) (fun (e : Nat) => uL (fun (x : Nat) => Int.ofNat 0) 0 e) fun (e : Nat) => uD (fun (x : Nat) => Int.ofNat 0) 0 e) (↑x_6 : Int) (Int.ofNat 1))
    (nN [(1, .pf (∃ (x_7 : Int), x_7 = lT (Cf.mk (Int.ofNat 1) (Int.ofNat 3) (Int.ofNat 1) (Int.ofNat 8) (Int.ofNat 4) (Int.ofNat 1) (Int.ofNat 1) (Int.ofNat 0) (Int.ofNat 1) 1 x.fst 0 x.snd.fst (fun (e : Nat) => 0) (fun (e : Nat) => x.snd.snd e) (fun (i e : Nat) => cO (fun (x : Nat) => Int.ofNat 0) 0 i e) (fun (i e : Nat) => cA (fun (x : Nat) => Int.ofNat 0) 0 i e) (fun (i e : Nat) => cB (fun (x : Nat) => Int.ofNat 0) 0 i e) (fun (e : Nat) => uP (fun (x : Nat) => Int.ofNat 0) 0 e) (fun (e : Nat) => uL (fun (x : Nat) => Int.ofNat 0) 0 e) fun (e : Nat) => uD (fun (x : Nat) => Int.ofNat 0) 0 e) + (↑x_6 : Int) * Int.ofNat 5 + Int.ofNat 1) ⟨_, rfl⟩)]
    (V.any Int (fun (r : Int) => r = lT (Cf.mk (Int.ofNat 1) (Int.ofNat 3) (Int.ofNat 1) (Int.ofNat 8) (Int.ofNat 4) (Int.ofNat 1) (Int.ofNat 1) (Int.ofNat 0) (Int.ofNat 1) 1 x.fst 0 x.snd.fst (fun (e : Nat) => 0) (fun (e : Nat) => x.snd.snd e) (fun (i e : Nat) => cO (fun (x : Nat) => Int.ofNat 0) 0 i e) (fun (i e : Nat) => cA (fun (x : Nat) => Int.ofNat 0) 0 i e) (fun (i e : Nat) => cB (fun (x : Nat) => Int.ofNat 0) 0 i e) (fun (e : Nat) => uP (fun (x : Nat) => Int.ofNat 0) 0 e) (fun (e : Nat) => uL (fun (x : Nat) => Int.ofNat 0) 0 e) fun (e : Nat) => uD (fun (x : Nat) => Int.ofNat 0) 0 e) + (↑x_6 : Int) * Int.ofNat 5 + Int.ofNat 1) fun (x : Int) => nN [(1, .pf (x = x) rfl), (1, .le 1 1), (1, .pf (∀ (i : Nat), i < 1 → 1 ≤ 1) (by intros; exact Nat.le_refl _)), (1, .pf (x_5.fst.m.ct = x_5.fst.m.ct) rfl), (1, .le 1 1), (1, .pf (∀ (i : Nat), i < 1 → 66 ≤ 66) (by intros; exact Nat.le_refl _)), (1, .pf (∀ (i e : Nat), i < 1 ∧ e < 66 → x_5.fst.m.g e = x_5.fst.m.g e) (by intros; rfl)), (1, .pf (∃ (x_7 : Int), x_7 = (Mm.mk (fun (e : Nat) => x_5.fst.m.g e) x_5.fst.m.lk x_5.fst.m.lc x_5.fst.m.lo x_5.fst.m.ln x_5.fst.m.ct).val 66 x) ⟨_, rfl⟩)]
    (V.any Int (fun (v : Int) => v = (Mm.mk (fun (e : Nat) => x_5.fst.m.g e) x_5.fst.m.lk x_5.fst.m.lc x_5.fst.m.lo x_5.fst.m.ln x_5.fst.m.ct).val 66 x) fun (x : Int) => V.br (decide ((↑x_6 : Int) < IntKind.i64.wrap (Int.ofNat 1 + min (↑len : Int) (Int.ofNat 7))))
    (V.need (Int.ofNat 0 ≤ (↑x_6 : Int) ∧ (↑x_6 : Int) < (↑8 : Int))
    (V.need (0 < 1 ∧ 0 + (↑x_6 : Int).toNat < 8)
    (V.need (0 < 1 ∧ 0 + (↑x_6 : Int).toNat < 8)
    (V.br (IntKind.i64.wrap x != max (IntKind.i64.wrap (to.tmod (Int.ofNat 3))) (x_2.a (0 + (↑x_6 : Int).toNat)))
    (V.bad 420)
    (V.br (decide ((↑x_6 : Int) ≥ IntKind.i64.wrap (Int.ofNat 1 + min (↑len : Int) (Int.ofNat 7))))
    (V.br (IntKind.i64.wrap x != Int.ofNat 0)
    (V.bad 420)
    (V.need ((IntKind.i64.wrap ((↑x_6 : Int) + Int.ofNat 1)).toNat.le 8)
    (V.need (8 - (IntKind.i64.wrap ((↑x_6 : Int) + Int.ofNat 1)).toNat < 8 - x_6)
    (V.need (IntKind.i64.wrap ((↑x_6 : Int) + Int.ofNat 1) = (↑(IntKind.i64.wrap ((↑x_6 : Int) + Int.ofNat 1)).toNat : Int)) V.ok))))
    (V.need ((IntKind.i64.wrap ((↑x_6 : Int) + Int.ofNat 1)).toNat.le 8)
    (V.need (8 - (IntKind.i64.wrap ((↑x_6 : Int) + Int.ofNat 1)).toNat < 8 - x_6)
    (V.need (IntKind.i64.wrap ((↑x_6 : Int) + Int.ofNat 1) = (↑(IntKind.i64.wrap ((↑x_6 : Int) + Int.ofNat 1)).toNat : Int)) V.ok))))))))
    (V.br (decide ((↑x_6 : Int) ≥ IntKind.i64.wrap (Int.ofNat 1 + min (↑len : Int) (Int.ofNat 7))))
    (V.br (IntKind.i64.wrap x != Int.ofNat 0)
    (V.bad 420)
    (V.need ((IntKind.i64.wrap ((↑x_6 : Int) + Int.ofNat 1)).toNat.le 8)
    (V.need (8 - (IntKind.i64.wrap ((↑x_6 : Int) + Int.ofNat 1)).toNat < 8 - x_6)
    (V.need (IntKind.i64.wrap ((↑x_6 : Int) + Int.ofNat 1) = (↑(IntKind.i64.wrap ((↑x_6 : Int) + Int.ofNat 1)).toNat : Int)) V.ok))))
    (V.need ((IntKind.i64.wrap ((↑x_6 : Int) + Int.ofNat 1)).toNat.le 8)
    (V.need (8 - (IntKind.i64.wrap ((↑x_6 : Int) + Int.ofNat 1)).toNat < 8 - x_6)
    (V.need (IntKind.i64.wrap ((↑x_6 : Int) + Int.ofNat 1) = (↑(IntKind.i64.wrap ((↑x_6 : Int) + Int.ofNat 1)).toNat : Int)) V.ok)))))))))))
    (nN [(17, .lt2 0 1 0 1), (2, .eq 66 66), (1, .le 1 1), (1, .pf (∀ (i : Nat), i < 1 → 66 ≤ 66) (by intros; exact Nat.le_refl _)), (1, .pf (∀ (i e : Nat), i < 1 ∧ e < 66 → x_5.fst.m.g e = x_5.fst.m.g e) (by intros; rfl)), (1, .le 66 1000000)]
    (V.need (∃ (x : Nat), 66 ≤ x)
    (V.any Nat (fun (c : Nat) => 66 ≤ c) fun (x_7 : Nat) => nN [(1, .eqI 1 1), (1, .eqI 3 3), (1, .eqI 1 1), (1, .eqI 8 8), (1, .eqI 4 4), (2, .eqI 1 1), (1, .eqI 0 0), (1, .eqI 1 1), (1, .eq 1 1), (1, .pf (x.fst = x.fst) rfl), (1, .eq 0 0), (1, .pf (x.snd.fst = x.snd.fst) rfl), (1, .eq 66 66), (1, .pf (x_7 = x_7) rfl), (1, .pf (IntKind.i64.wrap (to.tmod (Int.ofNat 3)) = IntKind.i64.wrap (to.tmod (Int.ofNat 3))) rfl), (1, .le 1 1)]
    (V.need (1 ≤ 1 ∧ 1 ≤ x.fst)
    (nN [(1, .pf (∀ (i e : Nat), i = 0 ∧ e < 1 → e = e) (by intros; rfl)), (1, .pf (∀ (i e : Nat), i = 0 ∧ e < 1 → 0 = 0) (by intros; rfl)), (1, .pf (∀ (i e : Nat), i = 0 ∧ e < 1 → x.snd.snd e = x.snd.snd e) (by intros; rfl)), (1, .le 1 1)]
    (V.need (0 ≤ 0 ∧ 0 ≤ x.snd.fst)
    (nN [(1, .pf (∀ (i e : Nat), i = 0 ∧ e < 0 → uP (fun (x : Nat) => Int.ofNat 0) 0 e = uP (fun (x : Nat) => Int.ofNat 0) 0 e) (by intros; rfl)), (1, .pf (∀ (i e : Nat), i = 0 ∧ e < 0 → uL (fun (x : Nat) => Int.ofNat 0) 0 e = uL (fun (x : Nat) => Int.ofNat 0) 0 e) (by intros; rfl)), (1, .pf (∀ (i e : Nat), i = 0 ∧ e < 0 → uD (fun (x : Nat) => Int.ofNat 0) 0 e = uD (fun (x : Nat) => Int.ofNat 0) 0 e) (by intros; rfl))]
    (V.need (∀ (i : Nat), i < 1 → 0 ≤ gd 1 (fun (x : Nat) => 0) i ∧ 0 ≤ gd 1 (fun (e : Nat) => x.snd.snd e) i)
    (nN [(1, .pf (∀ (i e : Nat), i < 1 ∧ e < 0 → cO (fun (x : Nat) => Int.ofNat 0) 0 i e = cO (fun (x : Nat) => Int.ofNat 0) 0 i e) (by intros; rfl)), (1, .pf (∀ (i e : Nat), i < 1 ∧ e < 0 → cA (fun (x : Nat) => Int.ofNat 0) 0 i e = cA (fun (x : Nat) => Int.ofNat 0) 0 i e) (by intros; rfl)), (1, .pf (∀ (i e : Nat), i < 1 ∧ e < 0 → cB (fun (x : Nat) => Int.ofNat 0) 0 i e = cB (fun (x : Nat) => Int.ofNat 0) 0 i e) (by intros; rfl)), (1, .le 1 1)]
    (V.need (66 ≤ 66 ∧ 66 ≤ x_7)
    (nN [(1, .pf (∀ (i e : Nat), i = 0 ∧ e < 66 → x_5.fst.m.g e = x_5.fst.m.g e) (by intros; rfl))]
    (V.need (preEnt (Cf.mk (Int.ofNat 1) (Int.ofNat 3) (Int.ofNat 1) (Int.ofNat 8) (Int.ofNat 4) (Int.ofNat 1) (Int.ofNat 1) (Int.ofNat 0) (Int.ofNat 1) 1 x.fst 0 x.snd.fst (fun (e : Nat) => 0) (fun (e : Nat) => x.snd.snd e) (fun (i e : Nat) => cO (fun (x : Nat) => Int.ofNat 0) 0 i e) (fun (i e : Nat) => cA (fun (x : Nat) => Int.ofNat 0) 0 i e) (fun (i e : Nat) => cB (fun (x : Nat) => Int.ofNat 0) 0 i e) (fun (e : Nat) => uP (fun (x : Nat) => Int.ofNat 0) 0 e) (fun (e : Nat) => uL (fun (x : Nat) => Int.ofNat 0) 0 e) fun (e : Nat) => uD (fun (x : Nat) => Int.ofNat 0) 0 e) 66 (fun (e : Nat) => x_5.fst.m.g e) (IntKind.i64.wrap (to.tmod (Int.ofNat 3))))
    (V.br (decide (Int.ofNat 1 ≤ entN (Cf.mk (Int.ofNat 1) (Int.ofNat 3) (Int.ofNat 1) (Int.ofNat 8) (Int.ofNat 4) (Int.ofNat 1) (Int.ofNat 1) (Int.ofNat 0) (Int.ofNat 1) 1 x.fst 0 x.snd.fst (fun (e : Nat) => 0) (fun (e : Nat) => x.snd.snd e) (fun (i e : Nat) => cO (fun (x : Nat) => Int.ofNat 0) 0 i e) (fun (i e : Nat) => cA (fun (x : Nat) => Int.ofNat 0) 0 i e) (fun (i e : Nat) => cB (fun (x : Nat) => Int.ofNat 0) 0 i e) (fun (e : Nat) => uP (fun (x : Nat) => Int.ofNat 0) 0 e) (fun (e : Nat) => uL (fun (x : Nat) => Int.ofNat 0) 0 e) fun (e : Nat) => uD (fun (x : Nat) => Int.ofNat 0) 0 e) (fun (e : Nat) => x_5.fst.m.g e) (IntKind.i64.wrap (to.tmod (Int.ofNat 3))) ∧ entN (Cf.mk (Int.ofNat 1) (Int.ofNat 3) (Int.ofNat 1) (Int.ofNat 8) (Int.ofNat 4) (Int.ofNat 1) (Int.ofNat 1) (Int.ofNat 0) (Int.ofNat 1) 1 x.fst 0 x.snd.fst (fun (e : Nat) => 0) (fun (e : Nat) => x.snd.snd e) (fun (i e : Nat) => cO (fun (x : Nat) => Int.ofNat 0) 0 i e) (fun (i e : Nat) => cA (fun (x : Nat) => Int.ofNat 0) 0 i e) (fun (i e : Nat) => cB (fun (x : Nat) => Int.ofNat 0) 0 i e) (fun (e : Nat) => uP (fun (x : Nat) => Int.ofNat 0) 0 e) (fun (e : Nat) => uL (fun (x : Nat) => Int.ofNat 0) 0 e) fun (e : Nat) => uD (fun (x : Nat) => Int.ofNat 0) 0 e) (fun (e : Nat) => x_5.fst.m.g e) (IntKind.i64.wrap (to.tmod (Int.ofNat 3))) ≤ Int.ofNat 4))
    (V.need (∃ (x_8 : Nat), (entN (Cf.mk (Int.ofNat 1) (Int.ofNat 3) (Int.ofNat 1) (Int.ofNat 8) (Int.ofNat 4) (Int.ofNat 1) (Int.ofNat 1) (Int.ofNat 0) (Int.ofNat 1) 1 x.fst 0 x.snd.fst (fun (e : Nat) => 0) (fun (e : Nat) => x.snd.snd e) (fun (i e : Nat) => cO (fun (x : Nat) => Int.ofNat 0) 0 i e) (fun (i e : Nat) => cA (fun (x : Nat) => Int.ofNat 0) 0 i e) (fun (i e : Nat) => cB (fun (x : Nat) => Int.ofNat 0) 0 i e) (fun (e : Nat) => uP (fun (x : Nat) => Int.ofNat 0) 0 e) (fun (e : Nat) => uL (fun (x : Nat) => Int.ofNat 0) 0 e) fun (e : Nat) => uD (fun (x : Nat) => Int.ofNat 0) 0 e) (fun (e : Nat) => x_5.fst.m.g e) (IntKind.i64.wrap (to.tmod (Int.ofNat 3)))).toNat ≤ x_8)
    (V.any Nat (fun (cp : Nat) => (entN (Cf.mk (Int.ofNat 1) (Int.ofNat 3) (Int.ofNat 1) (Int.ofNat 8) (Int.ofNat 4) (Int.ofNat 1) (Int.ofNat 1) (Int.ofNat 0) (Int.ofNat 1) 1 x.fst 0 x.snd.fst (fun (e : Nat) => 0) (fun (e : Nat) => x.snd.snd e) (fun (i e : Nat) => cO (fun (x : Nat) => Int.ofNat 0) 0 i e) (fun (i e : Nat) => cA (fun (x : Nat) => Int.ofNat 0) 0 i e) (fun (i e : Nat) => cB (fun (x : Nat) => Int.ofNat 0) 0 i e) (fun (e : Nat) => uP (fun (x : Nat) => Int.ofNat 0) 0 e) (fun (e : Nat) => uL (fun (x : Nat) => Int.ofNat 0) 0 e) fun (e : Nat) => uD (fun (x : Nat) => Int.ofNat 0) 0 e) (fun (e : Nat) => x_5.fst.m.g e) (IntKind.i64.wrap (to.tmod (Int.ofNat 3)))).toNat ≤ cp) fun (x_8 : Nat) => V.br rd
    (V.need (Int.ofNat 0 ≤ IntKind.i64.wrap (IntKind.i64.wrap (Int.ofNat 1 + min (↑len : Int) (Int.ofNat 7)) - Int.ofNat 1) ∧ IntKind.i64.wrap (IntKind.i64.wrap (Int.ofNat 1 + min (↑len : Int) (Int.ofNat 7)) - Int.ofNat 1) < (↑8 : Int))
    (V.need (0 + (IntKind.i64.wrap (IntKind.i64.wrap (Int.ofNat 1 + min (↑len : Int) (Int.ofNat 7)) - Int.ofNat 1)).toNat < 8)
    (V.need (0 + (IntKind.i64.wrap (IntKind.i64.wrap (Int.ofNat 1 + min (↑len : Int) (Int.ofNat 7)) - Int.ofNat 1)).toNat < 8)
    (V.br (decide (x_2.a (0 + (IntKind.i64.wrap (IntKind.i64.wrap (Int.ofNat 1 + min (↑len : Int) (Int.ofNat 7)) - Int.ofNat 1)).toNat) < IntKind.i64.wrap (to.tmod (Int.ofNat 3))))
    (V.br ((↑(entN (Cf.mk (Int.ofNat 1) (Int.ofNat 3) (Int.ofNat 1) (Int.ofNat 8) (Int.ofNat 4) (Int.ofNat 1) (Int.ofNat 1) (Int.ofNat 0) (Int.ofNat 1) 1 x.fst 0 x.snd.fst (fun (e : Nat) => 0) (fun (e : Nat) => x.snd.snd e) (fun (i e : Nat) => cO (fun (x : Nat) => Int.ofNat 0) 0 i e) (fun (i e : Nat) => cA (fun (x : Nat) => Int.ofNat 0) 0 i e) (fun (i e : Nat) => cB (fun (x : Nat) => Int.ofNat 0) 0 i e) (fun (e : Nat) => uP (fun (x : Nat) => Int.ofNat 0) 0 e) (fun (e : Nat) => uL (fun (x : Nat) => Int.ofNat 0) 0 e) fun (e : Nat) => uD (fun (x : Nat) => Int.ofNat 0) 0 e) (fun (e : Nat) => x_5.fst.m.g e) (IntKind.i64.wrap (to.tmod (Int.ofNat 3)))).toNat : Int) == Int.ofNat 1)
    (V.need (Int.ofNat 0 ≤ Int.ofNat 0 ∧ Int.ofNat 0 < (↑(entN (Cf.mk (Int.ofNat 1) (Int.ofNat 3) (Int.ofNat 1) (Int.ofNat 8) (Int.ofNat 4) (Int.ofNat 1) (Int.ofNat 1) (Int.ofNat 0) (Int.ofNat 1) 1 x.fst 0 x.snd.fst (fun (e : Nat) => 0) (fun (e : Nat) => x.snd.snd e) (fun (i e : Nat) => cO (fun (x : Nat) => Int.ofNat 0) 0 i e) (fun (i e : Nat) => cA (fun (x : Nat) => Int.ofNat 0) 0 i e) (fun (i e : Nat) => cB (fun (x : Nat) => Int.ofNat 0) 0 i e) (fun (e : Nat) => uP (fun (x : Nat) => Int.ofNat 0) 0 e) (fun (e : Nat) => uL (fun (x : Nat) => Int.ofNat 0) 0 e) fun (e : Nat) => uD (fun (x : Nat) => Int.ofNat 0) 0 e) (fun (e : Nat) => x_5.fst.m.g e) (IntKind.i64.wrap (to.tmod (Int.ofNat 3)))).toNat : Int))
    (V.need (0 < (entN (Cf.mk (Int.ofNat 1) (Int.ofNat 3) (Int.ofNat 1) (Int.ofNat 8) (Int.ofNat 4) (Int.ofNat 1) (Int.ofNat 1) (Int.ofNat 0) (Int.ofNat 1) 1 x.fst 0 x.snd.fst (fun (e : Nat) => 0) (fun (e : Nat) => x.snd.snd e) (fun (i e : Nat) => cO (fun (x : Nat) => Int.ofNat 0) 0 i e) (fun (i e : Nat) => cA (fun (x : Nat) => Int.ofNat 0) 0 i e) (fun (i e : Nat) => cB (fun (x : Nat) => Int.ofNat 0) 0 i e) (fun (e : Nat) => uP (fun (x : Nat) => Int.ofNat 0) 0 e) (fun (e : Nat) => uL (fun (x : Nat) => Int.ofNat 0) 0 e) fun (e : Nat) => uD (fun (x : Nat) => Int.ofNat 0) 0 e) (fun (e : Nat) => x_5.fst.m.g e) (IntKind.i64.wrap (to.tmod (Int.ofNat 3)))).toNat)
    (V.need (0 < (entN (Cf.mk (Int.ofNat 1) (Int.ofNat 3) (Int.ofNat 1) (Int.ofNat 8) (Int.ofNat 4) (Int.ofNat 1) (Int.ofNat 1) (Int.ofNat 0) (Int.ofNat 1) 1 x.fst 0 x.snd.fst (fun (e : Nat) => 0) (fun (e : Nat) => x.snd.snd e) (fun (i e : Nat) => cO (fun (x : Nat) => Int.ofNat 0) 0 i e) (fun (i e : Nat) => cA (fun (x : Nat) => Int.ofNat 0) 0 i e) (fun (i e : Nat) => cB (fun (x : Nat) => Int.ofNat 0) 0 i e) (fun (e : Nat) => uP (fun (x : Nat) => Int.ofNat 0) 0 e) (fun (e : Nat) => uL (fun (x : Nat) => Int.ofNat 0) 0 e) fun (e : Nat) => uD (fun (x : Nat) => Int.ofNat 0) 0 e) (fun (e : Nat) => x_5.fst.m.g e) (IntKind.i64.wrap (to.tmod (Int.ofNat 3)))).toNat)
    (V.need ((entE (Cf.mk (Int.ofNat 1) (Int.ofNat 3) (Int.ofNat 1) (Int.ofNat 8) (Int.ofNat 4) (Int.ofNat 1) (Int.ofNat 1) (Int.ofNat 0) (Int.ofNat 1) 1 x.fst 0 x.snd.fst (fun (e : Nat) => 0) (fun (e : Nat) => x.snd.snd e) (fun (i e : Nat) => cO (fun (x : Nat) => Int.ofNat 0) 0 i e) (fun (i e : Nat) => cA (fun (x : Nat) => Int.ofNat 0) 0 i e) (fun (i e : Nat) => cB (fun (x : Nat) => Int.ofNat 0) 0 i e) (fun (e : Nat) => uP (fun (x : Nat) => Int.ofNat 0) 0 e) (fun (e : Nat) => uL (fun (x : Nat) => Int.ofNat 0) 0 e) fun (e : Nat) => uD (fun (x : Nat) => Int.ofNat 0) 0 e) (fun (e : Nat) => x_5.fst.m.g e) (IntKind.i64.wrap (to.tmod (Int.ofNat 3))) 0 == IntKind.i64.wrap (IntKind.i64.wrap (Int.ofNat 1 + min (↑len : Int) (Int.ofNat 7)) - Int.ofNat 1)) = true) V.ok))))
    (V.bad 420))
    (V.need (((↑(entN (Cf.mk (Int.ofNat 1) (Int.ofNat 3) (Int.ofNat 1) (Int.ofNat 8) (Int.ofNat 4) (Int.ofNat 1) (Int.ofNat 1) (Int.ofNat 0) (Int.ofNat 1) 1 x.fst 0 x.snd.fst (fun (e : Nat) => 0) (fun (e : Nat) => x.snd.snd e) (fun (i e : Nat) => cO (fun (x : Nat) => Int.ofNat 0) 0 i e) (fun (i e : Nat) => cA (fun (x : Nat) => Int.ofNat 0) 0 i e) (fun (i e : Nat) => cB (fun (x : Nat) => Int.ofNat 0) 0 i e) (fun (e : Nat) => uP (fun (x : Nat) => Int.ofNat 0) 0 e) (fun (e : Nat) => uL (fun (x : Nat) => Int.ofNat 0) 0 e) fun (e : Nat) => uD (fun (x : Nat) => Int.ofNat 0) 0 e) (fun (e : Nat) => x_5.fst.m.g e) (IntKind.i64.wrap (to.tmod (Int.ofNat 3)))).toNat : Int) == Int.ofNat 0) = true) V.ok)))))
    (V.need (((↑(entN (Cf.mk (Int.ofNat 1) (Int.ofNat 3) (Int.ofNat 1) (Int.ofNat 8) (Int.ofNat 4) (Int.ofNat 1) (Int.ofNat 1) (Int.ofNat 0) (Int.ofNat 1) 1 x.fst 0 x.snd.fst (fun (e : Nat) => 0) (fun (e : Nat) => x.snd.snd e) (fun (i e : Nat) => cO (fun (x : Nat) => Int.ofNat 0) 0 i e) (fun (i e : Nat) => cA (fun (x : Nat) => Int.ofNat 0) 0 i e) (fun (i e : Nat) => cB (fun (x : Nat) => Int.ofNat 0) 0 i e) (fun (e : Nat) => uP (fun (x : Nat) => Int.ofNat 0) 0 e) (fun (e : Nat) => uL (fun (x : Nat) => Int.ofNat 0) 0 e) fun (e : Nat) => uD (fun (x : Nat) => Int.ofNat 0) 0 e) (fun (e : Nat) => x_5.fst.m.g e) (IntKind.i64.wrap (to.tmod (Int.ofNat 3)))).toNat : Int) == Int.ofNat 0) = true) V.ok)))
    (V.br rd
    (V.need (Int.ofNat 0 ≤ IntKind.i64.wrap (IntKind.i64.wrap (Int.ofNat 1 + min (↑len : Int) (Int.ofNat 7)) - Int.ofNat 1) ∧ IntKind.i64.wrap (IntKind.i64.wrap (Int.ofNat 1 + min (↑len : Int) (Int.ofNat 7)) - Int.ofNat 1) < (↑8 : Int))
    (V.need (0 + (IntKind.i64.wrap (IntKind.i64.wrap (Int.ofNat 1 + min (↑len : Int) (Int.ofNat 7)) - Int.ofNat 1)).toNat < 8)
    (V.need (0 + (IntKind.i64.wrap (IntKind.i64.wrap (Int.ofNat 1 + min (↑len : Int) (Int.ofNat 7)) - Int.ofNat 1)).toNat < 8)
    (V.br (decide (x_2.a (0 + (IntKind.i64.wrap (IntKind.i64.wrap (Int.ofNat 1 + min (↑len : Int) (Int.ofNat 7)) - Int.ofNat 1)).toNat) < IntKind.i64.wrap (to.tmod (Int.ofNat 3))))
    (V.bad 420) V.ok)))) V.ok)))))))))))))))))))))))))))))
    (nN [(1, .eqI 200 200), (2, .eq 0 0), (1, .pf (x_2.m.lk = x_2.m.lk) rfl), (1, .pf (x_2.m.lc = x_2.m.lc) rfl), (1, .pf (x_2.m.lo = x_2.m.lo) rfl), (1, .pf (x_2.m.ln = x_2.m.ln) rfl), (1, .pf (x_2.m.ct = x_2.m.ct) rfl), (1, .eq 66 66), (1, .le 66 66), (1, .pf (∀ (e : Nat), e < 66 → x_2.m.g e = x_2.m.g e) (by intros; rfl)), (1, .eqI 0 0), (1, .pf (IntKind.i64.wrap (to.tmod (Int.ofNat 3)) = IntKind.i64.wrap (to.tmod (Int.ofNat 3))) rfl), (1, .eq 0 0), (1, .le 0 0), (5, .pf (∀ (e : Nat), e < 0 → Int.ofNat 0 = Int.ofNat 0) (by intros; rfl))]
    (V.need (preBc (nBl len) (Int.ofNat 0) (IntKind.i64.wrap (to.tmod (Int.ofNat 3))) (bfB g len) rd (Mm.mk (fun (e : Nat) => x_2.m.g e) x_2.m.lk x_2.m.lc x_2.m.lo x_2.m.ln x_2.m.ct) (El.mk 0 (Evs.mk (fun (i : Nat) => Int.ofNat 0) (fun (i : Nat) => Int.ofNat 0) (fun (i : Nat) => Int.ofNat 0) (fun (i : Nat) => Int.ofNat 0) fun (i : Nat) => Int.ofNat 0)) 0)
    (V.need (∃ (x : Re × Nat), φBc (nBl len) (IntKind.i64.wrap (to.tmod (Int.ofNat 3))) (bfB g len) rd x)
    (V.any (Re × Nat) (φBc (nBl len) (IntKind.i64.wrap (to.tmod (Int.ofNat 3))) (bfB g len) rd) fun (x_3 : Re × Nat) => V.br (x_3.fst.c != Int.ofNat 0)
    (V.bad 420)
    (V.br ((↑x_3.fst.l.n : Int) != (↑x_2.q : Int))
    (V.bad 420)
    (V.need (Nat.le 0 8)
    (V.need (Int.ofNat 0 = (↑0 : Int))
    (V.any Nat (fun (j : Nat) => j ≤ 8) fun (x_4 : Nat) => nN [(2, .lt2 0 1 0 1)]
    (V.br (decide ((↑x_4 : Int) < Int.ofNat 8))
    (nN [(14, .lt2 0 1 0 1), (1, .eqI 1 1), (1, .eqI 3 3), (1, .eqI 1 1), (1, .eqI 8 8), (1, .eqI 4 4), (2, .eqI 1 1), (1, .eqI 0 0), (1, .eqI 1 1), (1, .eq 1 1), (1, .pf (x.fst = x.fst) rfl), (1, .eq 0 0), (1, .pf (x.snd.fst = x.snd.fst) rfl), (1, .pf ((↑x_4 : Int) = (↑x_4 : Int)) rfl), (1, .eqI 1 1), (1, .le 1 1), (1, .pf (∀ (i : Nat), i < 1 → 1 ≤ 1) (by intros; exact Nat.le_refl _)), (1, .pf (∀ (i e : Nat), i < 1 ∧ e < 1 → e = e) (by intros; rfl)), (1, .pf (∀ (i e : Nat), i < 1 ∧ e < 1 → 0 = 0) (by intros; rfl)), (1, .pf (∀ (i e : Nat), i < 1 ∧ e < 1 → x.snd.snd e = x.snd.snd e) (by intros; rfl)), (1, .le 1 1), (1, .pf (∀ (i : Nat), i < 1 → 0 ≤ 0) (by intros; exact Nat.le_refl _)), (1, .pf (∀ (i e : Nat), i < 1 ∧ e < 0 → uP (fun (x : Nat) => Int.ofNat 0) 0 e = uP (fun (x : Nat) => Int.ofNat 0) 0 e) (by intros; rfl)), (1, .pf (∀ (i e : Nat), i < 1 ∧ e < 0 → uL (fun (x : Nat) => Int.ofNat 0) 0 e = uL (fun (x : Nat) => Int.ofNat 0) 0 e) (by intros; rfl)), (1, .pf (∀ (i e : Nat), i < 1 ∧ e < 0 → uD (fun (x : Nat) => Int.ofNat 0) 0 e = uD (fun (x : Nat) => Int.ofNat 0) 0 e) (by intros; rfl))]
    (V.need (∀ (i : Nat), i < 1 → 0 ≤ gd 1 (fun (x : Nat) => 0) i ∧ 0 ≤ gd 1 (fun (e : Nat) => x.snd.snd e) i)
    (nN [(1, .pf (∀ (i e : Nat), i < 1 ∧ e < 0 → cO (fun (x : Nat) => Int.ofNat 0) 0 i e = cO (fun (x : Nat) => Int.ofNat 0) 0 i e) (by intros; rfl)), (1, .pf (∀ (i e : Nat), i < 1 ∧ e < 0 → cA (fun (x : Nat) => Int.ofNat 0) 0 i e = cA (fun (x : Nat) => Int.ofNat 0) 0 i e) (by intros; rfl)), (1, .pf (∀ (i e : Nat), i < 1 ∧ e < 0 → cB (fun (x : Nat) => Int.ofNat 0) 0 i e = cB (fun (x : Nat) => Int.ofNat 0) 0 i e) (by intros; rfl))]
    (V.need (preTk (Cf.mk (Int.ofNat 1) (Int.ofNat 3) (Int.ofNat 1) (Int.ofNat 8) (Int.ofNat 4) (Int.ofNat 1) (Int.ofNat 1) (Int.ofNat 0) (Int.ofNat 1) 1 x.fst 0 x.snd.fst (fun (e : Nat) => 0) (fun (e : Nat) => x.snd.snd e) (fun (i e : Nat) => cO (fun (x : Nat) => Int.ofNat 0) 0 i e) (fun (i e : Nat) => cA (fun (x : Nat) => Int.ofNat 0) 0 i e) (fun (i e : Nat) => cB (fun (x : Nat) => Int.ofNat 0) 0 i e) (fun (e : Nat) => uP (fun (x : Nat) => Int.ofNat 0) 0 e) (fun (e : Nat) => uL (fun (x : Nat) => Int.ofNat 0) 0 e) fun (e : Nat) => uD (fun (x : Nat) => Int.ofNat 0) 0 e) (↑x_4 : Int) (Int.ofNat 1))
    (nN [(1, .pf (∃ (x_5 : Int), x_5 = lT (Cf.mk (Int.ofNat 1) (Int.ofNat 3) (Int.ofNat 1) (Int.ofNat 8) (Int.ofNat 4) (Int.ofNat 1) (Int.ofNat 1) (Int.ofNat 0) (Int.ofNat 1) 1 x.fst 0 x.snd.fst (fun (e : Nat) => 0) (fun (e : Nat) => x.snd.snd e) (fun (i e : Nat) => cO (fun (x : Nat) => Int.ofNat 0) 0 i e) (fun (i e : Nat) => cA (fun (x : Nat) => Int.ofNat 0) 0 i e) (fun (i e : Nat) => cB (fun (x : Nat) => Int.ofNat 0) 0 i e) (fun (e : Nat) => uP (fun (x : Nat) => Int.ofNat 0) 0 e) (fun (e : Nat) => uL (fun (x : Nat) => Int.ofNat 0) 0 e) fun (e : Nat) => uD (fun (x : Nat) => Int.ofNat 0) 0 e) + (↑x_4 : Int) * Int.ofNat 5 + Int.ofNat 1) ⟨_, rfl⟩)]
    (V.any Int (fun (r : Int) => r = lT (Cf.mk (Int.ofNat 1) (Int.ofNat 3) (Int.ofNat 1) (Int.ofNat 8) (Int.ofNat 4) (Int.ofNat 1) (Int.ofNat 1) (Int.ofNat 0) (Int.ofNat 1) 1 x.fst 0 x.snd.fst (fun (e : Nat) => 0) (fun (e : Nat) => x.snd.snd e) (fun (i e : Nat) => cO (fun (x : Nat) => Int.ofNat 0) 0 i e) (fun (i e : Nat) => cA (fun (x : Nat) => Int.ofNat 0) 0 i e) (fun (i e : Nat) => cB (fun (x : Nat) => Int.ofNat 0) 0 i e) (fun (e : Nat) => uP (fun (x : Nat) => Int.ofNat 0) 0 e) (fun (e : Nat) => uL (fun (x : Nat) => Int.ofNat 0) 0 e) fun (e : Nat) => uD (fun (x : Nat) => Int.ofNat 0) 0 e) + (↑x_4 : Int) * Int.ofNat 5 + Int.ofNat 1) fun (x : Int) => nN [(1, .pf (x = x) rfl), (1, .le 1 1), (1, .pf (∀ (i : Nat), i < 1 → 1 ≤ 1) (by intros; exact Nat.le_refl _)), (1, .pf (x_3.fst.m.ct = x_3.fst.m.ct) rfl), (1, .le 1 1), (1, .pf (∀ (i : Nat), i < 1 → 66 ≤ 66) (by intros; exact Nat.le_refl _)), (1, .pf (∀ (i e : Nat), i < 1 ∧ e < 66 → x_3.fst.m.g e = x_3.fst.m.g e) (by intros; rfl)), (1, .pf (∃ (x_5 : Int), x_5 = (Mm.mk (fun (e : Nat) => x_3.fst.m.g e) x_3.fst.m.lk x_3.fst.m.lc x_3.fst.m.lo x_3.fst.m.ln x_3.fst.m.ct).val 66 x) ⟨_, rfl⟩)]
    (V.any Int (fun (v : Int) => v = (Mm.mk (fun (e : Nat) => x_3.fst.m.g e) x_3.fst.m.lk x_3.fst.m.lc x_3.fst.m.lo x_3.fst.m.ln x_3.fst.m.ct).val 66 x) fun (x : Int) => V.br (decide ((↑x_4 : Int) < IntKind.i64.wrap (Int.ofNat 1 + min (↑len : Int) (Int.ofNat 7))))
    (V.need (Int.ofNat 0 ≤ (↑x_4 : Int) ∧ (↑x_4 : Int) < (↑8 : Int))
    (V.need (0 < 1 ∧ 0 + (↑x_4 : Int).toNat < 8)
    (V.need (0 < 1 ∧ 0 + (↑x_4 : Int).toNat < 8)
    (V.br (IntKind.i64.wrap x != max (IntKind.i64.wrap (to.tmod (Int.ofNat 3))) (x_2.a (0 + (↑x_4 : Int).toNat)))
    (V.bad 420)
    (V.br (decide ((↑x_4 : Int) ≥ IntKind.i64.wrap (Int.ofNat 1 + min (↑len : Int) (Int.ofNat 7))))
    (V.br (IntKind.i64.wrap x != Int.ofNat 0)
    (V.bad 420)
    (V.need ((IntKind.i64.wrap ((↑x_4 : Int) + Int.ofNat 1)).toNat.le 8)
    (V.need (8 - (IntKind.i64.wrap ((↑x_4 : Int) + Int.ofNat 1)).toNat < 8 - x_4)
    (V.need (IntKind.i64.wrap ((↑x_4 : Int) + Int.ofNat 1) = (↑(IntKind.i64.wrap ((↑x_4 : Int) + Int.ofNat 1)).toNat : Int)) V.ok))))
    (V.need ((IntKind.i64.wrap ((↑x_4 : Int) + Int.ofNat 1)).toNat.le 8)
    (V.need (8 - (IntKind.i64.wrap ((↑x_4 : Int) + Int.ofNat 1)).toNat < 8 - x_4)
    (V.need (IntKind.i64.wrap ((↑x_4 : Int) + Int.ofNat 1) = (↑(IntKind.i64.wrap ((↑x_4 : Int) + Int.ofNat 1)).toNat : Int)) V.ok))))))))
    (V.br (decide ((↑x_4 : Int) ≥ IntKind.i64.wrap (Int.ofNat 1 + min (↑len : Int) (Int.ofNat 7))))
    (V.br (IntKind.i64.wrap x != Int.ofNat 0)
    (V.bad 420)
    (V.need ((IntKind.i64.wrap ((↑x_4 : Int) + Int.ofNat 1)).toNat.le 8)
    (V.need (8 - (IntKind.i64.wrap ((↑x_4 : Int) + Int.ofNat 1)).toNat < 8 - x_4)
    (V.need (IntKind.i64.wrap ((↑x_4 : Int) + Int.ofNat 1) = (↑(IntKind.i64.wrap ((↑x_4 : Int) + Int.ofNat 1)).toNat : Int)) V.ok))))
    (V.need ((IntKind.i64.wrap ((↑x_4 : Int) + Int.ofNat 1)).toNat.le 8)
    (V.need (8 - (IntKind.i64.wrap ((↑x_4 : Int) + Int.ofNat 1)).toNat < 8 - x_4)
    (V.need (IntKind.i64.wrap ((↑x_4 : Int) + Int.ofNat 1) = (↑(IntKind.i64.wrap ((↑x_4 : Int) + Int.ofNat 1)).toNat : Int)) V.ok)))))))))))
    (nN [(17, .lt2 0 1 0 1), (2, .eq 66 66), (1, .le 1 1), (1, .pf (∀ (i : Nat), i < 1 → 66 ≤ 66) (by intros; exact Nat.le_refl _)), (1, .pf (∀ (i e : Nat), i < 1 ∧ e < 66 → x_3.fst.m.g e = x_3.fst.m.g e) (by intros; rfl)), (1, .le 66 1000000)]
    (V.need (∃ (x : Nat), 66 ≤ x)
    (V.any Nat (fun (c : Nat) => 66 ≤ c) fun (x_5 : Nat) => nN [(1, .eqI 1 1), (1, .eqI 3 3), (1, .eqI 1 1), (1, .eqI 8 8), (1, .eqI 4 4), (2, .eqI 1 1), (1, .eqI 0 0), (1, .eqI 1 1), (1, .eq 1 1), (1, .pf (x.fst = x.fst) rfl), (1, .eq 0 0), (1, .pf (x.snd.fst = x.snd.fst) rfl), (1, .eq 66 66), (1, .pf (x_5 = x_5) rfl), (1, .pf (IntKind.i64.wrap (to.tmod (Int.ofNat 3)) = IntKind.i64.wrap (to.tmod (Int.ofNat 3))) rfl), (1, .le 1 1)]
    (V.need (1 ≤ 1 ∧ 1 ≤ x.fst)
    (nN [(1, .pf (∀ (i e : Nat), i = 0 ∧ e < 1 → e = e) (by intros; rfl)), (1, .pf (∀ (i e : Nat), i = 0 ∧ e < 1 → 0 = 0) (by intros; rfl)), (1, .pf (∀ (i e : Nat), i = 0 ∧ e < 1 → x.snd.snd e = x.snd.snd e) (by intros; rfl)), (1, .le 1 1)]
    (V.need (0 ≤ 0 ∧ 0 ≤ x.snd.fst)
    (nN [(1, .pf (∀ (i e : Nat), i = 0 ∧ e < 0 → uP (fun (x : Nat) => Int.ofNat 0) 0 e = uP (fun (x : Nat) => Int.ofNat 0) 0 e) (by intros; rfl)), (1, .pf (∀ (i e : Nat), i = 0 ∧ e < 0 → uL (fun (x : Nat) => Int.ofNat 0) 0 e = uL (fun (x : Nat) => Int.ofNat 0) 0 e) (by intros; rfl)), (1, .pf (∀ (i e : Nat), i = 0 ∧ e < 0 → uD (fun (x : Nat) => Int.ofNat 0) 0 e = uD (fun (x : Nat) => Int.ofNat 0) 0 e) (by intros; rfl))]
    (V.need (∀ (i : Nat), i < 1 → 0 ≤ gd 1 (fun (x : Nat) => 0) i ∧ 0 ≤ gd 1 (fun (e : Nat) => x.snd.snd e) i)
    (nN [(1, .pf (∀ (i e : Nat), i < 1 ∧ e < 0 → cO (fun (x : Nat) => Int.ofNat 0) 0 i e = cO (fun (x : Nat) => Int.ofNat 0) 0 i e) (by intros; rfl)), (1, .pf (∀ (i e : Nat), i < 1 ∧ e < 0 → cA (fun (x : Nat) => Int.ofNat 0) 0 i e = cA (fun (x : Nat) => Int.ofNat 0) 0 i e) (by intros; rfl)), (1, .pf (∀ (i e : Nat), i < 1 ∧ e < 0 → cB (fun (x : Nat) => Int.ofNat 0) 0 i e = cB (fun (x : Nat) => Int.ofNat 0) 0 i e) (by intros; rfl)), (1, .le 1 1)]
    (V.need (66 ≤ 66 ∧ 66 ≤ x_5)
    (nN [(1, .pf (∀ (i e : Nat), i = 0 ∧ e < 66 → x_3.fst.m.g e = x_3.fst.m.g e) (by intros; rfl))]
    (V.need (preEnt (Cf.mk (Int.ofNat 1) (Int.ofNat 3) (Int.ofNat 1) (Int.ofNat 8) (Int.ofNat 4) (Int.ofNat 1) (Int.ofNat 1) (Int.ofNat 0) (Int.ofNat 1) 1 x.fst 0 x.snd.fst (fun (e : Nat) => 0) (fun (e : Nat) => x.snd.snd e) (fun (i e : Nat) => cO (fun (x : Nat) => Int.ofNat 0) 0 i e) (fun (i e : Nat) => cA (fun (x : Nat) => Int.ofNat 0) 0 i e) (fun (i e : Nat) => cB (fun (x : Nat) => Int.ofNat 0) 0 i e) (fun (e : Nat) => uP (fun (x : Nat) => Int.ofNat 0) 0 e) (fun (e : Nat) => uL (fun (x : Nat) => Int.ofNat 0) 0 e) fun (e : Nat) => uD (fun (x : Nat) => Int.ofNat 0) 0 e) 66 (fun (e : Nat) => x_3.fst.m.g e) (IntKind.i64.wrap (to.tmod (Int.ofNat 3))))
    (V.br (decide (Int.ofNat 1 ≤ entN (Cf.mk (Int.ofNat 1) (Int.ofNat 3) (Int.ofNat 1) (Int.ofNat 8) (Int.ofNat 4) (Int.ofNat 1) (Int.ofNat 1) (Int.ofNat 0) (Int.ofNat 1) 1 x.fst 0 x.snd.fst (fun (e : Nat) => 0) (fun (e : Nat) => x.snd.snd e) (fun (i e : Nat) => cO (fun (x : Nat) => Int.ofNat 0) 0 i e) (fun (i e : Nat) => cA (fun (x : Nat) => Int.ofNat 0) 0 i e) (fun (i e : Nat) => cB (fun (x : Nat) => Int.ofNat 0) 0 i e) (fun (e : Nat) => uP (fun (x : Nat) => Int.ofNat 0) 0 e) (fun (e : Nat) => uL (fun (x : Nat) => Int.ofNat 0) 0 e) fun (e : Nat) => uD (fun (x : Nat) => Int.ofNat 0) 0 e) (fun (e : Nat) => x_3.fst.m.g e) (IntKind.i64.wrap (to.tmod (Int.ofNat 3))) ∧ entN (Cf.mk (Int.ofNat 1) (Int.ofNat 3) (Int.ofNat 1) (Int.ofNat 8) (Int.ofNat 4) (Int.ofNat 1) (Int.ofNat 1) (Int.ofNat 0) (Int.ofNat 1) 1 x.fst 0 x.snd.fst (fun (e : Nat) => 0) (fun (e : Nat) => x.snd.snd e) (fun (i e : Nat) => cO (fun (x : Nat) => Int.ofNat 0) 0 i e) (fun (i e : Nat) => cA (fun (x : Nat) => Int.ofNat 0) 0 i e) (fun (i e : Nat) => cB (fun (x : Nat) => Int.ofNat 0) 0 i e) (fun (e : Nat) => uP (fun (x : Nat) => Int.ofNat 0) 0 e) (fun (e : Nat) => uL (fun (x : Nat) => Int.ofNat 0) 0 e) fun (e : Nat) => uD (fun (x : Nat) => Int.ofNat 0) 0 e) (fun (e : Nat) => x_3.fst.m.g e) (IntKind.i64.wrap (to.tmod (Int.ofNat 3))) ≤ Int.ofNat 4))
    (V.need (∃ (x_6 : Nat), (entN (Cf.mk (Int.ofNat 1) (Int.ofNat 3) (Int.ofNat 1) (Int.ofNat 8) (Int.ofNat 4) (Int.ofNat 1) (Int.ofNat 1) (Int.ofNat 0) (Int.ofNat 1) 1 x.fst 0 x.snd.fst (fun (e : Nat) => 0) (fun (e : Nat) => x.snd.snd e) (fun (i e : Nat) => cO (fun (x : Nat) => Int.ofNat 0) 0 i e) (fun (i e : Nat) => cA (fun (x : Nat) => Int.ofNat 0) 0 i e) (fun (i e : Nat) => cB (fun (x : Nat) => Int.ofNat 0) 0 i e) (fun (e : Nat) => uP (fun (x : Nat) => Int.ofNat 0) 0 e) (fun (e : Nat) => uL (fun (x : Nat) => Int.ofNat 0) 0 e) fun (e : Nat) => uD (fun (x : Nat) => Int.ofNat 0) 0 e) (fun (e : Nat) => x_3.fst.m.g e) (IntKind.i64.wrap (to.tmod (Int.ofNat 3)))).toNat ≤ x_6)
    (V.any Nat (fun (cp : Nat) => (entN (Cf.mk (Int.ofNat 1) (Int.ofNat 3) (Int.ofNat 1) (Int.ofNat 8) (Int.ofNat 4) (Int.ofNat 1) (Int.ofNat 1) (Int.ofNat 0) (Int.ofNat 1) 1 x.fst 0 x.snd.fst (fun (e : Nat) => 0) (fun (e : Nat) => x.snd.snd e) (fun (i e : Nat) => cO (fun (x : Nat) => Int.ofNat 0) 0 i e) (fun (i e : Nat) => cA (fun (x : Nat) => Int.ofNat 0) 0 i e) (fun (i e : Nat) => cB (fun (x : Nat) => Int.ofNat 0) 0 i e) (fun (e : Nat) => uP (fun (x : Nat) => Int.ofNat 0) 0 e) (fun (e : Nat) => uL (fun (x : Nat) => Int.ofNat 0) 0 e) fun (e : Nat) => uD (fun (x : Nat) => Int.ofNat 0) 0 e) (fun (e : Nat) => x_3.fst.m.g e) (IntKind.i64.wrap (to.tmod (Int.ofNat 3)))).toNat ≤ cp) fun (x_6 : Nat) => V.br rd
    (V.need (Int.ofNat 0 ≤ IntKind.i64.wrap (IntKind.i64.wrap (Int.ofNat 1 + min (↑len : Int) (Int.ofNat 7)) - Int.ofNat 1) ∧ IntKind.i64.wrap (IntKind.i64.wrap (Int.ofNat 1 + min (↑len : Int) (Int.ofNat 7)) - Int.ofNat 1) < (↑8 : Int))
    (V.need (0 + (IntKind.i64.wrap (IntKind.i64.wrap (Int.ofNat 1 + min (↑len : Int) (Int.ofNat 7)) - Int.ofNat 1)).toNat < 8)
    (V.need (0 + (IntKind.i64.wrap (IntKind.i64.wrap (Int.ofNat 1 + min (↑len : Int) (Int.ofNat 7)) - Int.ofNat 1)).toNat < 8)
    (V.br (decide (x_2.a (0 + (IntKind.i64.wrap (IntKind.i64.wrap (Int.ofNat 1 + min (↑len : Int) (Int.ofNat 7)) - Int.ofNat 1)).toNat) < IntKind.i64.wrap (to.tmod (Int.ofNat 3))))
    (V.br ((↑(entN (Cf.mk (Int.ofNat 1) (Int.ofNat 3) (Int.ofNat 1) (Int.ofNat 8) (Int.ofNat 4) (Int.ofNat 1) (Int.ofNat 1) (Int.ofNat 0) (Int.ofNat 1) 1 x.fst 0 x.snd.fst (fun (e : Nat) => 0) (fun (e : Nat) => x.snd.snd e) (fun (i e : Nat) => cO (fun (x : Nat) => Int.ofNat 0) 0 i e) (fun (i e : Nat) => cA (fun (x : Nat) => Int.ofNat 0) 0 i e) (fun (i e : Nat) => cB (fun (x : Nat) => Int.ofNat 0) 0 i e) (fun (e : Nat) => uP (fun (x : Nat) => Int.ofNat 0) 0 e) (fun (e : Nat) => uL (fun (x : Nat) => Int.ofNat 0) 0 e) fun (e : Nat) => uD (fun (x : Nat) => Int.ofNat 0) 0 e) (fun (e : Nat) => x_3.fst.m.g e) (IntKind.i64.wrap (to.tmod (Int.ofNat 3)))).toNat : Int) == Int.ofNat 1)
    (V.need (Int.ofNat 0 ≤ Int.ofNat 0 ∧ Int.ofNat 0 < (↑(entN (Cf.mk (Int.ofNat 1) (Int.ofNat 3) (Int.ofNat 1) (Int.ofNat 8) (Int.ofNat 4) (Int.ofNat 1) (Int.ofNat 1) (Int.ofNat 0) (Int.ofNat 1) 1 x.fst 0 x.snd.fst (fun (e : Nat) => 0) (fun (e : Nat) => x.snd.snd e) (fun (i e : Nat) => cO (fun (x : Nat) => Int.ofNat 0) 0 i e) (fun (i e : Nat) => cA (fun (x : Nat) => Int.ofNat 0) 0 i e) (fun (i e : Nat) => cB (fun (x : Nat) => Int.ofNat 0) 0 i e) (fun (e : Nat) => uP (fun (x : Nat) => Int.ofNat 0) 0 e) (fun (e : Nat) => uL (fun (x : Nat) => Int.ofNat 0) 0 e) fun (e : Nat) => uD (fun (x : Nat) => Int.ofNat 0) 0 e) (fun (e : Nat) => x_3.fst.m.g e) (IntKind.i64.wrap (to.tmod (Int.ofNat 3)))).toNat : Int))
    (V.need (0 < (entN (Cf.mk (Int.ofNat 1) (Int.ofNat 3) (Int.ofNat 1) (Int.ofNat 8) (Int.ofNat 4) (Int.ofNat 1) (Int.ofNat 1) (Int.ofNat 0) (Int.ofNat 1) 1 x.fst 0 x.snd.fst (fun (e : Nat) => 0) (fun (e : Nat) => x.snd.snd e) (fun (i e : Nat) => cO (fun (x : Nat) => Int.ofNat 0) 0 i e) (fun (i e : Nat) => cA (fun (x : Nat) => Int.ofNat 0) 0 i e) (fun (i e : Nat) => cB (fun (x : Nat) => Int.ofNat 0) 0 i e) (fun (e : Nat) => uP (fun (x : Nat) => Int.ofNat 0) 0 e) (fun (e : Nat) => uL (fun (x : Nat) => Int.ofNat 0) 0 e) fun (e : Nat) => uD (fun (x : Nat) => Int.ofNat 0) 0 e) (fun (e : Nat) => x_3.fst.m.g e) (IntKind.i64.wrap (to.tmod (Int.ofNat 3)))).toNat)
    (V.need (0 < (entN (Cf.mk (Int.ofNat 1) (Int.ofNat 3) (Int.ofNat 1) (Int.ofNat 8) (Int.ofNat 4) (Int.ofNat 1) (Int.ofNat 1) (Int.ofNat 0) (Int.ofNat 1) 1 x.fst 0 x.snd.fst (fun (e : Nat) => 0) (fun (e : Nat) => x.snd.snd e) (fun (i e : Nat) => cO (fun (x : Nat) => Int.ofNat 0) 0 i e) (fun (i e : Nat) => cA (fun (x : Nat) => Int.ofNat 0) 0 i e) (fun (i e : Nat) => cB (fun (x : Nat) => Int.ofNat 0) 0 i e) (fun (e : Nat) => uP (fun (x : Nat) => Int.ofNat 0) 0 e) (fun (e : Nat) => uL (fun (x : Nat) => Int.ofNat 0) 0 e) fun (e : Nat) => uD (fun (x : Nat) => Int.ofNat 0) 0 e) (fun (e : Nat) => x_3.fst.m.g e) (IntKind.i64.wrap (to.tmod (Int.ofNat 3)))).toNat)
    (V.need ((entE (Cf.mk (Int.ofNat 1) (Int.ofNat 3) (Int.ofNat 1) (Int.ofNat 8) (Int.ofNat 4) (Int.ofNat 1) (Int.ofNat 1) (Int.ofNat 0) (Int.ofNat 1) 1 x.fst 0 x.snd.fst (fun (e : Nat) => 0) (fun (e : Nat) => x.snd.snd e) (fun (i e : Nat) => cO (fun (x : Nat) => Int.ofNat 0) 0 i e) (fun (i e : Nat) => cA (fun (x : Nat) => Int.ofNat 0) 0 i e) (fun (i e : Nat) => cB (fun (x : Nat) => Int.ofNat 0) 0 i e) (fun (e : Nat) => uP (fun (x : Nat) => Int.ofNat 0) 0 e) (fun (e : Nat) => uL (fun (x : Nat) => Int.ofNat 0) 0 e) fun (e : Nat) => uD (fun (x : Nat) => Int.ofNat 0) 0 e) (fun (e : Nat) => x_3.fst.m.g e) (IntKind.i64.wrap (to.tmod (Int.ofNat 3))) 0 == IntKind.i64.wrap (IntKind.i64.wrap (Int.ofNat 1 + min (↑len : Int) (Int.ofNat 7)) - Int.ofNat 1)) = true) V.ok))))
    (V.bad 420))
    (V.need (((↑(entN (Cf.mk (Int.ofNat 1) (Int.ofNat 3) (Int.ofNat 1) (Int.ofNat 8) (Int.ofNat 4) (Int.ofNat 1) (Int.ofNat 1) (Int.ofNat 0) (Int.ofNat 1) 1 x.fst 0 x.snd.fst (fun (e : Nat) => 0) (fun (e : Nat) => x.snd.snd e) (fun (i e : Nat) => cO (fun (x : Nat) => Int.ofNat 0) 0 i e) (fun (i e : Nat) => cA (fun (x : Nat) => Int.ofNat 0) 0 i e) (fun (i e : Nat) => cB (fun (x : Nat) => Int.ofNat 0) 0 i e) (fun (e : Nat) => uP (fun (x : Nat) => Int.ofNat 0) 0 e) (fun (e : Nat) => uL (fun (x : Nat) => Int.ofNat 0) 0 e) fun (e : Nat) => uD (fun (x : Nat) => Int.ofNat 0) 0 e) (fun (e : Nat) => x_3.fst.m.g e) (IntKind.i64.wrap (to.tmod (Int.ofNat 3)))).toNat : Int) == Int.ofNat 0) = true) V.ok)))))
    (V.need (((↑(entN (Cf.mk (Int.ofNat 1) (Int.ofNat 3) (Int.ofNat 1) (Int.ofNat 8) (Int.ofNat 4) (Int.ofNat 1) (Int.ofNat 1) (Int.ofNat 0) (Int.ofNat 1) 1 x.fst 0 x.snd.fst (fun (e : Nat) => 0) (fun (e : Nat) => x.snd.snd e) (fun (i e : Nat) => cO (fun (x : Nat) => Int.ofNat 0) 0 i e) (fun (i e : Nat) => cA (fun (x : Nat) => Int.ofNat 0) 0 i e) (fun (i e : Nat) => cB (fun (x : Nat) => Int.ofNat 0) 0 i e) (fun (e : Nat) => uP (fun (x : Nat) => Int.ofNat 0) 0 e) (fun (e : Nat) => uL (fun (x : Nat) => Int.ofNat 0) 0 e) fun (e : Nat) => uD (fun (x : Nat) => Int.ofNat 0) 0 e) (fun (e : Nat) => x_3.fst.m.g e) (IntKind.i64.wrap (to.tmod (Int.ofNat 3)))).toNat : Int) == Int.ofNat 0) = true) V.ok)))
    (V.br rd
    (V.need (Int.ofNat 0 ≤ IntKind.i64.wrap (IntKind.i64.wrap (Int.ofNat 1 + min (↑len : Int) (Int.ofNat 7)) - Int.ofNat 1) ∧ IntKind.i64.wrap (IntKind.i64.wrap (Int.ofNat 1 + min (↑len : Int) (Int.ofNat 7)) - Int.ofNat 1) < (↑8 : Int))
    (V.need (0 + (IntKind.i64.wrap (IntKind.i64.wrap (Int.ofNat 1 + min (↑len : Int) (Int.ofNat 7)) - Int.ofNat 1)).toNat < 8)
    (V.need (0 + (IntKind.i64.wrap (IntKind.i64.wrap (Int.ofNat 1 + min (↑len : Int) (Int.ofNat 7)) - Int.ofNat 1)).toNat < 8)
    (V.br (decide (x_2.a (0 + (IntKind.i64.wrap (IntKind.i64.wrap (Int.ofNat 1 + min (↑len : Int) (Int.ofNat 7)) - Int.ofNat 1)).toNat) < IntKind.i64.wrap (to.tmod (Int.ofNat 3))))
    (V.bad 420) V.ok)))) V.ok))))))))))))))))))))))))))))))))))))))))) := by kernel_rfl


end Go.Proofs.Ytomaagmleafjeaa.Md

/- BoostChains: the conditions hold; the walk. -/
set_option linter.unusedVariables false
set_option linter.unusedSimpArgs false
set_option maxRecDepth 100000
namespace Go.Proofs.Ytomaagmleafjeaa.Md
open Go Go.RowKit Sx Cn Dc Ck Vc
section
variable {n i : Nat} {bf : Nat → Int} {m m' : Mm} {lv : Int} {rd : Bool}
theorem mB_st (hi : i < n) (h : ∀ e, m.g e = mB n bf i e) (h1 : m'.g (cb i 1) = bf i) (h0 : m'.g (cb i 0) = 3) (h3 : m'.g (cb i 3) = if i + 1 < n then ((i + 2 : Nat) : Int) else 0) (ho : ∀ e, e ≠ cb i 0 → e ≠ cb i 1 → e ≠ cb i 3 → m'.g e = m.g e) : ∀ e, m'.g e = mB n bf (i + 1) e := fun e => by
  by_cases e0 : e = cb i 0
  · subst e0
    rw [h0]; unfold mB cb
    rw [if_neg (by omega), if_pos (by omega)]
  by_cases e1 : e = cb i 1
  · subst e1
    rw [h1]; unfold mB cb
    rw [if_neg (by omega), if_neg (by omega), if_pos (by omega), show (26 + 5 * i + 1 - 26) / 5 = i by omega]
  by_cases e3 : e = cb i 3
  · subst e3
    have : mB n bf (i + 1) (cb i 3) = if i + 1 < n then ((i + 2 : Nat) : Int) else 0 := by
      unfold mB cb
      rw [if_neg (by omega), if_neg (by omega), if_neg (by omega), show (26 + 5 * i + 3 - 26) / 5 = i by omega]
      by_cases c : i + 1 < n
      · rw [if_pos ⟨by omega, c⟩, if_pos c]
      · rw [if_neg (by omega), if_neg c]
    rw [h3, this]
  rw [ho e e0 e1 e3, h]
  unfold cb at e0 e1 e3
  unfold mB
  by_cases c : e < 26 ∨ i ≤ (e - 26) / 5
  · rw [if_pos c]
    by_cases c2 : e < 26 ∨ i + 1 ≤ (e - 26) / 5
    · rw [if_pos c2]
    · have : (e - 26) / 5 = i := by omega
      rw [if_neg c2, if_neg (by omega), if_neg (by omega), if_neg (by omega)]
  · have c2 : ¬ (e < 26 ∨ i + 1 ≤ (e - 26) / 5) := by omega
    rw [if_neg c, if_neg c2]
theorem mB_bd (hb : ∀ u, 0 ≤ bf u ∧ bf u < 3) (hn : n ≤ 8) (e : Nat) : 0 ≤ mB n bf i e ∧ mB n bf i e ≤ 18446744073709551615 := by
  have := hb ((e - 26) / 5)
  unfold mB
  repeat' split
  all_goals omega
theorem mB_start {l : El} {nc : Nat} (hb : ∀ u, 0 ≤ bf u ∧ bf u < 3) (hz : ∀ u, n ≤ u → bf u = 0) (hn : n ≤ 8) (h : ∀ e, e ≠ cb (n - 1) 0 → m.g e = mB n bf n e) (h0 : 1 ≤ n) (hr : m.g (cb (n - 1) 0) = if rd = true then 1 else 3) (hl : l.n = 0) : BcM n lv bf rd 0 m l nc ∧ dqE m := by
  refine ⟨⟨Nat.zero_le _, fun u hu => by omega, fun u _ hu => ?_, fun u hu => ?_, fun u hu => ?_, hl, by omega, fun e => ?_⟩, fun e h8 h26 => ?_⟩
  · rw [h _ (by unfold cb; omega)]
    unfold mB cb
    by_cases c : n ≤ u
    · rw [if_pos (by omega), hz u c]
    · rw [if_neg (by omega), if_neg (by omega), if_pos (by omega), show (26 + 5 * u + 1 - 26) / 5 = u by omega]
  · by_cases c : u + 1 = n
    · rw [show u = n - 1 by omega, hr]
      cases rd with
      | true => simp; omega
      | false => simp
    · rw [h _ (by unfold cb; omega)]
      unfold mB cb
      rw [if_neg (by omega), if_pos (by omega)]
      exact ⟨fun h => absurd h (by decide), fun h => absurd h.1 c⟩
  · rw [h _ (by unfold cb; omega)]
    unfold mB cb
    rw [if_neg (by omega), if_neg (by omega), if_neg (by omega), show (26 + 5 * u + 3 - 26) / 5 = u by omega]
    by_cases c : u + 1 < n
    · rw [if_pos c, if_pos ⟨by omega, c⟩]
    · rw [if_neg c, if_neg (by omega)]
  · by_cases c : e = cb (n - 1) 0
    · rw [c, hr]
      split <;> omega
    · rw [h e c]
      exact mB_bd hb hn e
  · rw [h e (by unfold cb; omega)]
    unfold mB
    rw [if_pos (by omega)]
end
def c3p (c : Cf) : Prop := c.W = 1 ∧ c.L = 3 ∧ c.C = 1 ∧ c.T = 8 ∧ c.D = 4 ∧ c.H = 1
theorem okY3 {c : Cf} (h : c3p c) : okY c := by
  obtain ⟨h1, h2, h3, h4, h5, h6⟩ := h
  unfold okY
  omega
theorem lT3 {c : Cf} (h : c3p c) : lT c = 26 := by
  obtain ⟨h1, h2, h3, h4, h5, h6⟩ := h
  unfold lT lQ
  rw [h1, h2, h3, h5, h6]
  rfl
theorem preTk3 {c : Cf} {t k : Int} (h : c3p c) (ht : 0 ≤ t ∧ t < 8) (hk : 0 ≤ k ∧ k ≤ 4) : preTk c t k := ⟨okY3 h, ⟨ht.1, by rw [h.2.2.2.1]; exact ht.2⟩, hk⟩
theorem okN3 {c : Cf} (h : c3p c) (hB : c.B = 1) (hA : c.A = 0) (hP : c.P = 1) : okN c := by
  obtain ⟨h1, h2, h3, h4, h5, h6⟩ := h
  unfold okN
  omega
theorem ncN3 {c : Cf} (h : c3p c) : ncN c = 66 := by
  have := lT3 h
  obtain ⟨h1, h2, h3, h4, h5, h6⟩ := h
  unfold ncN ncI
  rw [this, h4]
  rfl
theorem ent3 {c : Cf} {m : Mm} {lv : Int} (h : c3p c) (hl : 0 ≤ lv ∧ lv < 3) : (dqE m → entN c (fun e => m.g e) lv = 0) ∧ ∀ t : Nat, t < 8 → dqP lv t m → entN c (fun e => m.g e) lv = 1 ∧ entE c (fun e => m.g e) lv 0 = t := by
  obtain ⟨h1, h2, h3, h4, h5, h6⟩ := h
  have eQ : entQ c lv = 8 + 6 * lv := by unfold entQ lQ; rw [h1, h3, h5, h6]; omega
  have e0 : (8 + 6 * lv).toNat = db lv 0 := by unfold db; omega
  have e1 : (8 + 6 * lv + 1).toNat = db lv 1 := by unfold db; omega
  have e2 : (8 + 6 * lv + 2).toNat = db lv 2 := by unfold db; omega
  refine ⟨fun hE => ?_, fun t ht hP => ?_⟩
  · unfold entN sz
    dsimp only
    rw [eQ, hE _ (by omega) (by omega), hE _ (by omega) (by omega)]
    decide
  · obtain ⟨d0, d1, d2, _⟩ := hP
    constructor
    · unfold entN sz
      dsimp only
      rw [eQ, e0, e1, d0, d1]
      decide
    · unfold entE ringC
      dsimp only
      rw [eQ, e0, d0, h5, if_neg (by decide), show IntKind.u64.wrap ((0 : Int) + ((0 : Nat) : Int)) = 0 from rfl, show IntKind.i64.wrap ((0 : Int).tmod (IntKind.u64.wrap 4)) = 0 from rfl, Int.add_zero, w64 (n := 8 + 6 * lv + 2) (by omega), e2, d2, w64 (by omega)]
theorem ent_f {N D : Int} {I : Decidable (1 ≤ N ∧ N ≤ D)} (h : @decide (Int.ofNat 1 ≤ N ∧ N ≤ D) I = true) (hN : N = 0) : False := by
  have : (1 : Int) ≤ N := (of_decide_eq_true h).1
  omega
theorem ent_t {N D : Int} {I : Decidable (1 ≤ N ∧ N ≤ D)} (h : @decide (Int.ofNat 1 ≤ N ∧ N ≤ D) I = false) (hN : N = 1) (hD : 1 ≤ D) : False := of_decide_eq_false h ⟨by rw [hN]; decide, by omega⟩
theorem ent_g {N : Int} (h : ((N.toNat : Int) == Int.ofNat 1) = false) (hN : N = 1) : False := by
  subst hN
  exact absurd h (by decide)
theorem ent_p {N : Int} (hN : N = 1) : Int.ofNat 0 < (N.toNat : Int) := by
  subst hN
  decide
theorem ent_q {N : Int} (hN : N = 1) : 0 < N.toNat := by
  subst hN
  decide
set_option maxHeartbeats 16000000 in
theorem vhBl {g : Nat → Int} {len cap : Nat} {to : Int} {rd : Bool} (hg : ∀ v, v < len → 0 ≤ g v ∧ g v ≤ 255) (ht : 0 ≤ to ∧ to ≤ 255) : VHolds (verBl g len cap to rd) := by
  constructor
  rw [verBl_eq]
  have eN : IntKind.i64.wrap (Int.ofNat 1 + min (len : Int) (Int.ofNat 7)) = ((nBl len : Nat) : Int) := by
    have : Int.ofNat 1 + min (len : Int) (Int.ofNat 7) = ((nBl len : Nat) : Int) := by
      show (1 : Int) + min (len : Int) (7 : Int) = _
      unfold nBl
      omega
    rw [this]
    exact w64 (by unfold nBl; omega)
  have hn : 1 ≤ nBl len ∧ nBl len ≤ 8 := by unfold nBl; omega
  have e1 : IntKind.i64.wrap (((nBl len : Nat) : Int) - Int.ofNat 1) = ((nBl len - 1 : Nat) : Int) := by
    rw [show ((nBl len : Nat) : Int) - Int.ofNat 1 = ((nBl len - 1 : Nat) : Int) by show ((nBl len : Nat) : Int) - (1 : Int) = _; omega]
    exact w64 (by omega)
  have hlv : 0 ≤ to.tmod 3 ∧ to.tmod 3 < 3 := ⟨Int.tmod_nonneg 3 ht.1, Int.tmod_lt_of_pos to (by decide)⟩
  have eL : IntKind.i64.wrap (to.tmod (Int.ofNat 3)) = to.tmod 3 := w64 (n := to.tmod 3) (by omega)
  have hb : ∀ u, 0 ≤ bfB g len u ∧ bfB g len u < 3 := fun u => by
    unfold bfB
    split
    · rename_i h
      have := hg u h.1
      exact ⟨Int.tmod_nonneg 3 this.1, Int.tmod_lt_of_pos _ (by decide)⟩
    · decide
  have hb1 : ∀ u, u < len → u < 8 → IntKind.i64.wrap ((g u).tmod (Int.ofNat 3)) = bfB g len u := fun u h h8 => by
    have := hb u
    unfold bfB at *
    rw [if_pos ⟨h, h8⟩] at *
    exact w64 (n := (g u).tmod 3) (by omega)
  have hb0 : ∀ u, len ≤ u → bfB g len u = 0 := fun u h => if_neg (by omega)
  have hz : ∀ u, nBl len ≤ u → bfB g len u = 0 := fun u h => if_neg (by unfold nBl at h; omega)
  simp only [eN, eL, e1, Mm.eta]
  generalize bfB g len = bf at *
  generalize to.tmod 3 = lv at *
  generalize nBl len = N at *
  (repeat' first | with_reducible exact V.okI | with_reducible refine V.anyCfg ?_ | with_reducible refine V.anyMm ?_ | with_reducible refine V.anyInt ?_ | with_reducible refine V.anyNat ?_ | with_reducible refine V.anyCl' ?_ | with_reducible refine nN_h rfl ?_ | with_reducible refine V.needI ?_ ?_ | with_reducible intro _)
  all_goals first
    | (first | rfl | exact True.intro | exact ⟨u8_0, by decide⟩ | exact ⟨(1, 0, fun _ => 0), Nat.le_refl _⟩ | exact ⟨Nat.le_refl _, by assumption⟩ | exact Nat.zero_le _ | exact ⟨Nat.zero_le _, Nat.zero_le _⟩ | exact ⟨(_, _), is_cl _, Nat.le_refl _⟩ | exact err9 (by unfold okN; simp only [Int.ofNat_eq_natCast]; omega) rfl rfl rfl | decide)
    | exact err9 (okN3 ⟨rfl, rfl, rfl, rfl, rfl, rfl⟩ rfl rfl rfl) rfl rfl rfl
    | exact ⟨(_, _), is_cl _, Nat.le_refl _⟩
    | exact ⟨u8_0, by decide⟩
    | exact ⟨Nat.zero_le _, rfl, fun u => (if_neg (Nat.not_lt_zero _)).symm, fun e => (if_pos (Or.inr (Nat.zero_le _))).symm⟩
    | omega
    | skip
  refine V.anyI fun x hx => ?_
  obtain ⟨o1, o2, o3, o4⟩ := hx
  have ei : IntKind.i64.wrap ((x.i : Int) + Int.ofNat 1) = ((x.i + 1 : Nat) : Int) := wnat (by omega)
  have hrl : rais lv bf x.i ≤ x.i := rais_le
  have eq1 : IntKind.i64.wrap ((x.q : Int) + Int.ofNat 1) = ((x.q + 1 : Nat) : Int) := wnat (by omega)
  have ei2 : IntKind.i64.wrap ((x.i : Int) + Int.ofNat 2) = ((x.i + 2 : Nat) : Int) := by
    rw [show (x.i : Int) + Int.ofNat 2 = ((x.i + 2 : Nat) : Int) by show (x.i : Int) + (2 : Int) = _; omega]
    exact w64 (by omega)
  have eu2 : IntKind.u64.wrap ((x.i + 2 : Nat) : Int) = ((x.i + 2 : Nat) : Int) := wu64 (by omega)
  refine V.brI (fun hi => ?_) fun hi => ?_
  · have hi : x.i < N := by have := of_decide_eq_true hi; omega
    have hbi := hb x.i
    have eub : IntKind.u64.wrap (bf x.i) = bf x.i := wu64 (by omega)
    have hr1 : rais lv bf (x.i + 1) = rais lv bf x.i + (if bf x.i < lv then 1 else 0) := rfl
    simp only [ei, eq1, ei2, eu2, Int.toNat_natCast, Nat.zero_add, true_and, and_self, if_true]
    have hst : ∀ {m1 m2 m3 : Mm} {a1 a2 a3 : Int}, a1 = 26 + (x.i : Int) * 5 + 1 → a2 = 26 + (x.i : Int) * 5 + 0 → m1 = x.m.acc 66 2 a1 (bf x.i) → m2 = m1.acc 66 2 a2 3 → (¬ x.i + 1 < N ∧ m3 = m2 ∨ x.i + 1 < N ∧ a3 = 26 + (x.i : Int) * 5 + 3 ∧ m3 = m2.acc 66 2 a3 ((x.i + 2 : Nat) : Int)) → ∀ e, m3.g e = mB N bf (x.i + 1) e := by
      intro m1 m2 m3 a1 a2 a3 h1 h2 hm1 hm2 h3
      have z3 : x.m.g (cb x.i 3) = 0 := by rw [o4]; exact if_pos (.inr (by unfold cb; omega))
      have c0 : ((cb x.i 0 : Nat) : Int) = 26 + (x.i : Int) * 5 + 0 := by unfold cb; omega
      have c1 : ((cb x.i 1 : Nat) : Int) = 26 + (x.i : Int) * 5 + 1 := by unfold cb; omega
      have c3 : ((cb x.i 3 : Nat) : Int) = 26 + (x.i : Int) * 5 + 3 := by unfold cb; omega
      rcases h3 with ⟨hl, hm3⟩ | ⟨hl, h3, hm3⟩
      · subst hm3
        refine mB_st hi o4 ?_ ?_ ?_ fun e d0 d1 d3 => ?_
        · rw [hm2, Mm.acc_ne (by omega), hm1]; exact Mm.acc_eq (by omega) (by omega) (by omega)
        · rw [hm2]; exact Mm.acc_eq (by omega) (by omega) (by omega)
        · rw [hm2, Mm.acc_ne (by omega), hm1, Mm.acc_ne (by omega), z3, if_neg hl]
        · rw [hm2, Mm.acc_ne (by omega), hm1, Mm.acc_ne (by omega)]
      · refine mB_st hi o4 ?_ ?_ ?_ fun e d0 d1 d3 => ?_
        · rw [hm3, Mm.acc_ne (by omega), hm2, Mm.acc_ne (by omega), hm1]; exact Mm.acc_eq (by omega) (by omega) (by omega)
        · rw [hm3, Mm.acc_ne (by omega), hm2]; exact Mm.acc_eq (by omega) (by omega) (by omega)
        · rw [hm3, if_pos hl]; exact Mm.acc_eq (by omega) (by omega) (by omega)
        · rw [hm3, Mm.acc_ne (by omega), hm2, Mm.acc_ne (by omega), hm1, Mm.acc_ne (by omega)]
    have hai : x.a x.i = 0 := by rw [o3, if_neg (Nat.lt_irrefl _)]
    refine V.brI (fun hL => ?_) fun hL => ?_
    case' refine_1 =>
      have hL : x.i < len := by have := of_decide_eq_true hL; omega
      simp only [hb1 x.i hL (by omega), eub]
      have hA : ∀ u, (if u = x.i then bf x.i else x.a u) = if u < x.i + 1 then bf u else 0 := fun u => by
        by_cases c : u = x.i
        · subst c; rw [if_pos rfl, if_pos (by omega)]
        · rw [if_neg c, o3]
          by_cases c2 : u < x.i
          · rw [if_pos c2, if_pos (by omega)]
          · rw [if_neg c2, if_neg (by omega)]
    case' refine_2 =>
      have hL : ¬ x.i < len := by have := of_decide_eq_false hL; omega
      have hb0i := hb0 x.i (by omega)
      simp only [show x.a x.i = bf x.i by rw [hai, hb0i], eub]
      have hA : ∀ u, x.a u = if u < x.i + 1 then bf u else 0 := fun u => by
        rw [o3]
        by_cases c2 : u < x.i
        · rw [if_pos c2, if_pos (by omega)]
        · by_cases c : u = x.i
          · subst c; rw [if_neg c2, if_pos (by omega), hb0i]
          · rw [if_neg c2, if_neg (by omega)]
    all_goals
      ((repeat' first | with_reducible refine nN_h rfl ?_ | with_reducible refine V.brT ?_ | with_reducible refine V.brF ?_ | with_reducible refine V.needI ?_ ?_) <;> (try first | with_reducible exact V.okI | exact rfl | exact ⟨Nat.le_refl _, rfl⟩ | exact Nat.le_refl _ | assumption | omega | trivial | decide | (intros; rfl) | (intros; trivial)))
      all_goals try first
        | exact preTk3 ⟨rfl, rfl, rfl, rfl, rfl, rfl⟩ (by omega) (by decide)
        | exact fun i _ => ⟨Nat.zero_le _, Nat.zero_le _⟩
        | exact ⟨Nat.zero_lt_one, by omega⟩
        | exact ⟨Int.natCast_nonneg _, by omega⟩
        | exact ⟨_, rfl⟩
        | exact ⟨_, Nat.le_refl _⟩
        | exact Nat.zero_le _
        | exact (show j + 1 ≤ 8 by omega)
      refine V.brI (fun hc => ?_) fun hc => ?_
      case' refine_1 =>
        have hc : bf x.i < lv := of_decide_eq_true hc
        have hq : x.q + 1 = rais lv bf (x.i + 1) := by rw [hr1, if_pos hc, o2]
      case' refine_2 =>
        have hc : ¬ bf x.i < lv := of_decide_eq_false hc
        have hq : x.q = rais lv bf (x.i + 1) := by rw [hr1, if_neg hc, o2]; rfl
      all_goals
        ((repeat' first | with_reducible refine nN_h rfl ?_ | with_reducible refine V.brT ?_ | with_reducible refine V.brF ?_ | with_reducible refine V.needI ?_ ?_) <;> (try first | with_reducible exact V.okI | exact rfl | exact ⟨Nat.le_refl _, rfl⟩ | exact Nat.le_refl _ | assumption | omega | trivial | decide | (intros; rfl) | (intros; trivial)))
        all_goals try first
          | exact preTk3 ⟨rfl, rfl, rfl, rfl, rfl, rfl⟩ (by omega) (by decide)
          | exact fun i _ => ⟨Nat.zero_le _, Nat.zero_le _⟩
          | exact ⟨Nat.zero_lt_one, by omega⟩
          | exact ⟨Int.natCast_nonneg _, by omega⟩
          | exact ⟨_, rfl⟩
          | exact ⟨_, Nat.le_refl _⟩
          | exact Nat.zero_le _
          | exact (show j + 1 ≤ 8 by omega)
        refine V.anyI fun a1 ha1 => ?_
        rw [lT3 ⟨rfl, rfl, rfl, rfl, rfl, rfl⟩] at ha1
        ((repeat' first | with_reducible refine nN_h rfl ?_ | with_reducible refine V.brT ?_ | with_reducible refine V.brF ?_ | with_reducible refine V.needI ?_ ?_) <;> (try first | with_reducible exact V.okI | exact rfl | exact ⟨Nat.le_refl _, rfl⟩ | exact Nat.le_refl _ | assumption | omega | trivial | decide | (intros; rfl) | (intros; trivial)))
        all_goals try first
          | exact preTk3 ⟨rfl, rfl, rfl, rfl, rfl, rfl⟩ (by omega) (by decide)
          | exact fun i _ => ⟨Nat.zero_le _, Nat.zero_le _⟩
          | exact ⟨Nat.zero_lt_one, by omega⟩
          | exact ⟨Int.natCast_nonneg _, by omega⟩
          | exact ⟨_, rfl⟩
          | exact ⟨_, Nat.le_refl _⟩
          | exact Nat.zero_le _
          | exact (show j + 1 ≤ 8 by omega)
        refine V.anyI fun m1 hm1 => ?_
        ((repeat' first | with_reducible refine nN_h rfl ?_ | with_reducible refine V.brT ?_ | with_reducible refine V.brF ?_ | with_reducible refine V.needI ?_ ?_) <;> (try first | with_reducible exact V.okI | exact rfl | exact ⟨Nat.le_refl _, rfl⟩ | exact Nat.le_refl _ | assumption | omega | trivial | decide | (intros; rfl) | (intros; trivial)))
        all_goals try first
          | exact preTk3 ⟨rfl, rfl, rfl, rfl, rfl, rfl⟩ (by omega) (by decide)
          | exact fun i _ => ⟨Nat.zero_le _, Nat.zero_le _⟩
          | exact ⟨Nat.zero_lt_one, by omega⟩
          | exact ⟨Int.natCast_nonneg _, by omega⟩
          | exact ⟨_, rfl⟩
          | exact ⟨_, Nat.le_refl _⟩
          | exact Nat.zero_le _
          | exact (show j + 1 ≤ 8 by omega)
        refine V.anyI fun a2 ha2 => ?_
        rw [lT3 ⟨rfl, rfl, rfl, rfl, rfl, rfl⟩] at ha2
        ((repeat' first | with_reducible refine nN_h rfl ?_ | with_reducible refine V.brT ?_ | with_reducible refine V.brF ?_ | with_reducible refine V.needI ?_ ?_) <;> (try first | with_reducible exact V.okI | exact rfl | exact ⟨Nat.le_refl _, rfl⟩ | exact Nat.le_refl _ | assumption | omega | trivial | decide | (intros; rfl) | (intros; trivial)))
        all_goals try first
          | exact preTk3 ⟨rfl, rfl, rfl, rfl, rfl, rfl⟩ (by omega) (by decide)
          | exact fun i _ => ⟨Nat.zero_le _, Nat.zero_le _⟩
          | exact ⟨Nat.zero_lt_one, by omega⟩
          | exact ⟨Int.natCast_nonneg _, by omega⟩
          | exact ⟨_, rfl⟩
          | exact ⟨_, Nat.le_refl _⟩
          | exact Nat.zero_le _
          | exact (show j + 1 ≤ 8 by omega)
        refine V.anyI fun m2 hm2 => ?_
        refine V.brI (fun hl => ?_) fun hl => ?_
        · have hl : x.i + 1 < N := by have := of_decide_eq_true hl; omega
          ((repeat' first | with_reducible refine nN_h rfl ?_ | with_reducible refine V.brT ?_ | with_reducible refine V.brF ?_ | with_reducible refine V.needI ?_ ?_) <;> (try first | with_reducible exact V.okI | exact rfl | exact ⟨Nat.le_refl _, rfl⟩ | exact Nat.le_refl _ | assumption | omega | trivial | decide | (intros; rfl) | (intros; trivial)))
          all_goals try first
            | exact preTk3 ⟨rfl, rfl, rfl, rfl, rfl, rfl⟩ (by omega) (by decide)
            | exact fun i _ => ⟨Nat.zero_le _, Nat.zero_le _⟩
            | exact ⟨Nat.zero_lt_one, by omega⟩
            | exact ⟨Int.natCast_nonneg _, by omega⟩
            | exact ⟨_, rfl⟩
            | exact ⟨_, Nat.le_refl _⟩
            | exact Nat.zero_le _
            | exact (show j + 1 ≤ 8 by omega)
          refine V.anyI fun a3 ha3 => ?_
          rw [lT3 ⟨rfl, rfl, rfl, rfl, rfl, rfl⟩] at ha3
          ((repeat' first | with_reducible refine nN_h rfl ?_ | with_reducible refine V.brT ?_ | with_reducible refine V.brF ?_ | with_reducible refine V.needI ?_ ?_) <;> (try first | with_reducible exact V.okI | exact rfl | exact ⟨Nat.le_refl _, rfl⟩ | exact Nat.le_refl _ | assumption | omega | trivial | decide | (intros; rfl) | (intros; trivial)))
          all_goals try first
            | exact preTk3 ⟨rfl, rfl, rfl, rfl, rfl, rfl⟩ (by omega) (by decide)
            | exact fun i _ => ⟨Nat.zero_le _, Nat.zero_le _⟩
            | exact ⟨Nat.zero_lt_one, by omega⟩
            | exact ⟨Int.natCast_nonneg _, by omega⟩
            | exact ⟨_, rfl⟩
            | exact ⟨_, Nat.le_refl _⟩
            | exact Nat.zero_le _
            | exact (show j + 1 ≤ 8 by omega)
          refine V.anyI fun m3 hm3 => ?_
          ((repeat' first | with_reducible refine nN_h rfl ?_ | with_reducible refine V.brT ?_ | with_reducible refine V.brF ?_ | with_reducible refine V.needI ?_ ?_) <;> (try first | with_reducible exact V.okI | exact rfl | exact ⟨Nat.le_refl _, rfl⟩ | exact Nat.le_refl _ | assumption | omega | trivial | decide | (intros; rfl) | (intros; trivial)))
          all_goals try first
            | exact preTk3 ⟨rfl, rfl, rfl, rfl, rfl, rfl⟩ (by omega) (by decide)
            | exact fun i _ => ⟨Nat.zero_le _, Nat.zero_le _⟩
            | exact ⟨Nat.zero_lt_one, by omega⟩
            | exact ⟨Int.natCast_nonneg _, by omega⟩
            | exact ⟨_, rfl⟩
            | exact ⟨_, Nat.le_refl _⟩
            | exact Nat.zero_le _
            | exact (show j + 1 ≤ 8 by omega)
          exact ⟨by omega, hq, hA, hst ha1 ha2 hm1 hm2 (.inr ⟨hl, ha3, hm3⟩)⟩
        · have hl : ¬ x.i + 1 < N := by have := of_decide_eq_false hl; omega
          ((repeat' first | with_reducible refine nN_h rfl ?_ | with_reducible refine V.brT ?_ | with_reducible refine V.brF ?_ | with_reducible refine V.needI ?_ ?_) <;> (try first | with_reducible exact V.okI | exact rfl | exact ⟨Nat.le_refl _, rfl⟩ | exact Nat.le_refl _ | assumption | omega | trivial | decide | (intros; rfl) | (intros; trivial)))
          all_goals try first
            | exact preTk3 ⟨rfl, rfl, rfl, rfl, rfl, rfl⟩ (by omega) (by decide)
            | exact fun i _ => ⟨Nat.zero_le _, Nat.zero_le _⟩
            | exact ⟨Nat.zero_lt_one, by omega⟩
            | exact ⟨Int.natCast_nonneg _, by omega⟩
            | exact ⟨_, rfl⟩
            | exact ⟨_, Nat.le_refl _⟩
            | exact Nat.zero_le _
            | exact (show j + 1 ≤ 8 by omega)
          exact ⟨by omega, hq, hA, hst (a3 := 0) ha1 ha2 hm1 hm2 (.inl ⟨hl, rfl⟩)⟩
  · have hi : x.i = N := by have := of_decide_eq_false hi; omega
    rw [hi] at o2 o3 o4
    clear hi ei eq1 ei2 eu2
    have hN1 : ((cb (N - 1) 0 : Nat) : Int) = 26 + ((N - 1 : Nat) : Int) * 5 + 0 := by unfold cb; omega
    refine V.brI (fun hr => ?_) fun hr => ?_
    case' refine_1 =>
      subst hr
      ((repeat' first | with_reducible refine nN_h rfl ?_ | with_reducible refine V.brT ?_ | with_reducible refine V.brF ?_ | with_reducible refine V.needI ?_ ?_) <;> (try first | with_reducible exact V.okI | exact rfl | exact ⟨Nat.le_refl _, rfl⟩ | exact Nat.le_refl _ | assumption | omega | trivial | decide | (intros; rfl) | (intros; trivial)))
      all_goals try first
        | exact preTk3 ⟨rfl, rfl, rfl, rfl, rfl, rfl⟩ (by omega) (by decide)
        | exact fun i _ => ⟨Nat.zero_le _, Nat.zero_le _⟩
        | exact ⟨Nat.zero_lt_one, by omega⟩
        | exact ⟨Int.natCast_nonneg _, by omega⟩
        | exact ⟨_, rfl⟩
        | exact ⟨_, Nat.le_refl _⟩
        | exact Nat.zero_le _
        | exact (show j + 1 ≤ 8 by omega)
      refine V.anyI fun a1 ha1 => ?_
      rw [lT3 ⟨rfl, rfl, rfl, rfl, rfl, rfl⟩] at ha1
      have ha1 : a1 = 26 + ((N - 1 : Nat) : Int) * 5 + 0 := ha1
      ((repeat' first | with_reducible refine nN_h rfl ?_ | with_reducible refine V.brT ?_ | with_reducible refine V.brF ?_ | with_reducible refine V.needI ?_ ?_) <;> (try first | with_reducible exact V.okI | exact rfl | exact ⟨Nat.le_refl _, rfl⟩ | exact Nat.le_refl _ | assumption | omega | trivial | decide | (intros; rfl) | (intros; trivial)))
      all_goals try first
        | exact preTk3 ⟨rfl, rfl, rfl, rfl, rfl, rfl⟩ (by omega) (by decide)
        | exact fun i _ => ⟨Nat.zero_le _, Nat.zero_le _⟩
        | exact ⟨Nat.zero_lt_one, by omega⟩
        | exact ⟨Int.natCast_nonneg _, by omega⟩
        | exact ⟨_, rfl⟩
        | exact ⟨_, Nat.le_refl _⟩
        | exact Nat.zero_le _
        | exact (show j + 1 ≤ 8 by omega)
      refine V.anyI fun M hM => ?_
      have hB : ∀ {l : El} {nc : Nat}, l.n = 0 → BcM N lv bf true 0 M l nc ∧ dqE M := fun hl => mB_start hb hz hn.2 (fun e he => by rw [hM, Mm.acc_ne (by omega)]; exact o4 e) hn.1 (by rw [hM]; exact Mm.acc_eq (by omega) (by omega) (by omega)) hl
    case' refine_2 =>
      subst hr
      have hB : ∀ {l : El} {nc : Nat}, l.n = 0 → BcM N lv bf false 0 x.m l nc ∧ dqE x.m := fun hl => mB_start hb hz hn.2 (fun e he => o4 e) hn.1 (by rw [o4]; unfold mB cb; rw [if_neg (by omega), if_pos (by omega), if_neg (by decide)]) hl
    all_goals
      ((repeat' first | with_reducible refine nN_h rfl ?_ | with_reducible refine V.brT ?_ | with_reducible refine V.brF ?_ | with_reducible refine V.needI ?_ ?_) <;> (try first | with_reducible exact V.okI | exact rfl | exact ⟨Nat.le_refl _, rfl⟩ | exact Nat.le_refl _ | assumption | omega | trivial | decide | (intros; rfl) | (intros; trivial)))
      all_goals try first
        | exact preTk3 ⟨rfl, rfl, rfl, rfl, rfl, rfl⟩ (by omega) (by decide)
        | exact fun i _ => ⟨Nat.zero_le _, Nat.zero_le _⟩
        | exact ⟨Nat.zero_lt_one, by omega⟩
        | exact ⟨Int.natCast_nonneg _, by omega⟩
        | exact ⟨_, rfl⟩
        | exact ⟨_, Nat.le_refl _⟩
        | exact Nat.zero_le _
        | exact (show j + 1 ≤ 8 by omega)
      all_goals try first
        | exact ⟨rfl, hn, hlv, hb, hB rfl⟩
        | exact ex_bc hn hlv hb (hB (l := ⟨0, fun _ => 0, fun _ => 0, fun _ => 0, fun _ => 0, fun _ => 0⟩) (nc := 0) rfl).1 (hB (l := ⟨0, fun _ => 0, fun _ => 0, fun _ => 0, fun _ => 0, fun _ => 0⟩) (nc := 0) rfl).2
      clear hB
      refine V.anyI fun r hr => ?_
      obtain ⟨rc, rB, rD⟩ := hr
      obtain ⟨⟨c, v, k, m, l⟩, nc⟩ := r
      dsimp only at rc rB rD ⊢
      have rn := rB.ev
      refine V.brI (fun h => (cne rc h).elim) fun _ => ?_
      refine V.brI (fun h => (cne (by omega) h).elim) fun _ => ?_
      ((repeat' first | with_reducible refine nN_h rfl ?_ | with_reducible refine V.brT ?_ | with_reducible refine V.brF ?_ | with_reducible refine V.needI ?_ ?_) <;> (try first | with_reducible exact V.okI | exact rfl | exact ⟨Nat.le_refl _, rfl⟩ | exact Nat.le_refl _ | assumption | omega | trivial | decide | (intros; rfl) | (intros; trivial)))
      all_goals try first
        | exact preTk3 ⟨rfl, rfl, rfl, rfl, rfl, rfl⟩ (by omega) (by decide)
        | exact fun i _ => ⟨Nat.zero_le _, Nat.zero_le _⟩
        | exact ⟨Nat.zero_lt_one, by omega⟩
        | exact ⟨Int.natCast_nonneg _, by omega⟩
        | exact ⟨_, rfl⟩
        | exact ⟨_, Nat.le_refl _⟩
        | exact Nat.zero_le _
        | exact (show j + 1 ≤ 8 by omega)
      refine V.anyI fun j hj => ?_
      have hj : j ≤ 8 := hj
      ((repeat' first | with_reducible refine nN_h rfl ?_ | with_reducible refine V.brT ?_ | with_reducible refine V.brF ?_ | with_reducible refine V.needI ?_ ?_) <;> (try first | with_reducible exact V.okI | exact rfl | exact ⟨Nat.le_refl _, rfl⟩ | exact Nat.le_refl _ | assumption | omega | trivial | decide | (intros; rfl) | (intros; trivial)))
      all_goals try first
        | exact preTk3 ⟨rfl, rfl, rfl, rfl, rfl, rfl⟩ (by omega) (by decide)
        | exact fun i _ => ⟨Nat.zero_le _, Nat.zero_le _⟩
        | exact ⟨Nat.zero_lt_one, by omega⟩
        | exact ⟨Int.natCast_nonneg _, by omega⟩
        | exact ⟨_, rfl⟩
        | exact ⟨_, Nat.le_refl _⟩
        | exact Nat.zero_le _
        | exact (show j + 1 ≤ 8 by omega)
      refine V.brI (fun h8 => ?_) fun h8 => ?_
      · have h8 : j < 8 := by have : (j : Int) < (8 : Int) := of_decide_eq_true h8; omega
        have ej : IntKind.i64.wrap ((j : Int) + Int.ofNat 1) = ((j + 1 : Nat) : Int) := wnat (by omega)
        have hbj := hb j
        simp only [ej, Int.toNat_natCast, Nat.zero_add]
        ((repeat' first | with_reducible refine nN_h rfl ?_ | with_reducible refine V.brT ?_ | with_reducible refine V.brF ?_ | with_reducible refine V.needI ?_ ?_) <;> (try first | with_reducible exact V.okI | exact rfl | exact ⟨Nat.le_refl _, rfl⟩ | exact Nat.le_refl _ | assumption | omega | trivial | decide | (intros; rfl) | (intros; trivial)))
        all_goals try first
          | exact preTk3 ⟨rfl, rfl, rfl, rfl, rfl, rfl⟩ (by omega) (by decide)
          | exact fun i _ => ⟨Nat.zero_le _, Nat.zero_le _⟩
          | exact ⟨Nat.zero_lt_one, by omega⟩
          | exact ⟨Int.natCast_nonneg _, by omega⟩
          | exact ⟨_, rfl⟩
          | exact ⟨_, Nat.le_refl _⟩
          | exact Nat.zero_le _
          | exact (show j + 1 ≤ 8 by omega)
        refine V.anyI fun a ha => ?_
        rw [lT3 ⟨rfl, rfl, rfl, rfl, rfl, rfl⟩] at ha
        ((repeat' first | with_reducible refine nN_h rfl ?_ | with_reducible refine V.brT ?_ | with_reducible refine V.brF ?_ | with_reducible refine V.needI ?_ ?_) <;> (try first | with_reducible exact V.okI | exact rfl | exact ⟨Nat.le_refl _, rfl⟩ | exact Nat.le_refl _ | assumption | omega | trivial | decide | (intros; rfl) | (intros; trivial)))
        all_goals try first
          | exact preTk3 ⟨rfl, rfl, rfl, rfl, rfl, rfl⟩ (by omega) (by decide)
          | exact fun i _ => ⟨Nat.zero_le _, Nat.zero_le _⟩
          | exact ⟨Nat.zero_lt_one, by omega⟩
          | exact ⟨Int.natCast_nonneg _, by omega⟩
          | exact ⟨_, rfl⟩
          | exact ⟨_, Nat.le_refl _⟩
          | exact Nat.zero_le _
          | exact (show j + 1 ≤ 8 by omega)
        refine V.anyI fun w hw => ?_
        rw [val_cb (t := j) (k := 1) (by omega) (by omega) ha] at hw
        refine V.brI (fun hl => ?_) fun hl => ?_
        · have hl : j < N := by have := of_decide_eq_true hl; omega
          rw [rB.up j hl] at hw
          have ew : IntKind.i64.wrap w = max lv (x.a j) := by rw [o3, if_pos hl, hw]; exact w64 (by omega)
          ((repeat' first | with_reducible refine nN_h rfl ?_ | with_reducible refine V.brT ?_ | with_reducible refine V.brF ?_ | with_reducible refine V.needI ?_ ?_) <;> (try first | with_reducible exact V.okI | exact rfl | exact ⟨Nat.le_refl _, rfl⟩ | exact Nat.le_refl _ | assumption | omega | trivial | decide | (intros; rfl) | (intros; trivial)))
          all_goals try first
            | exact preTk3 ⟨rfl, rfl, rfl, rfl, rfl, rfl⟩ (by omega) (by decide)
            | exact fun i _ => ⟨Nat.zero_le _, Nat.zero_le _⟩
            | exact ⟨Nat.zero_lt_one, by omega⟩
            | exact ⟨Int.natCast_nonneg _, by omega⟩
            | exact ⟨_, rfl⟩
            | exact ⟨_, Nat.le_refl _⟩
            | exact Nat.zero_le _
            | exact (show j + 1 ≤ 8 by omega)
          refine V.brI (fun h => (cne ew h).elim) fun _ => ?_
          refine V.brI (fun h => (dge (by omega) h).elim) fun _ => ?_
          ((repeat' first | with_reducible refine nN_h rfl ?_ | with_reducible refine V.brT ?_ | with_reducible refine V.brF ?_ | with_reducible refine V.needI ?_ ?_) <;> (try first | with_reducible exact V.okI | exact rfl | exact ⟨Nat.le_refl _, rfl⟩ | exact Nat.le_refl _ | assumption | omega | trivial | decide | (intros; rfl) | (intros; trivial)))
          all_goals try first
            | exact preTk3 ⟨rfl, rfl, rfl, rfl, rfl, rfl⟩ (by omega) (by decide)
            | exact fun i _ => ⟨Nat.zero_le _, Nat.zero_le _⟩
            | exact ⟨Nat.zero_lt_one, by omega⟩
            | exact ⟨Int.natCast_nonneg _, by omega⟩
            | exact ⟨_, rfl⟩
            | exact ⟨_, Nat.le_refl _⟩
            | exact Nat.zero_le _
            | exact (show j + 1 ≤ 8 by omega)
        · have hl : ¬ j < N := by have := of_decide_eq_false hl; omega
          rw [rB.dn j (by omega) h8, hz j (by omega)] at hw
          have ew : IntKind.i64.wrap w = Int.ofNat 0 := by rw [hw]; rfl
          refine V.brI (fun _ => ?_) fun h => (dgf (by omega) h).elim
          refine V.brI (fun h => (cne ew h).elim) fun _ => ?_
          ((repeat' first | with_reducible refine nN_h rfl ?_ | with_reducible refine V.brT ?_ | with_reducible refine V.brF ?_ | with_reducible refine V.needI ?_ ?_) <;> (try first | with_reducible exact V.okI | exact rfl | exact ⟨Nat.le_refl _, rfl⟩ | exact Nat.le_refl _ | assumption | omega | trivial | decide | (intros; rfl) | (intros; trivial)))
          all_goals try first
            | exact preTk3 ⟨rfl, rfl, rfl, rfl, rfl, rfl⟩ (by omega) (by decide)
            | exact fun i _ => ⟨Nat.zero_le _, Nat.zero_le _⟩
            | exact ⟨Nat.zero_lt_one, by omega⟩
            | exact ⟨Int.natCast_nonneg _, by omega⟩
            | exact ⟨_, rfl⟩
            | exact ⟨_, Nat.le_refl _⟩
            | exact Nat.zero_le _
            | exact (show j + 1 ≤ 8 by omega)
      · clear h8 hj
        have E0 : dqE m → ∀ {c : Cf}, c3p c → entN c (fun e => m.g e) lv = 0 := fun hD c hc => (ent3 hc hlv).1 hD
        have E1 : dqP lv ((N - 1 : Nat) : Int) m → ∀ {c : Cf}, c3p c → entN c (fun e => m.g e) lv = 1 := fun hD c hc => ((ent3 hc hlv).2 (N - 1) (by omega) hD).1
        have E2 : dqP lv ((N - 1 : Nat) : Int) m → ∀ {c : Cf}, c3p c → entE c (fun e => m.g e) lv 0 = ((N - 1 : Nat) : Int) := fun hD c hc => ((ent3 hc hlv).2 (N - 1) (by omega) hD).2
        have eA : x.a (N - 1) = bf (N - 1) := by rw [o3, if_pos (by omega)]
        simp only [Int.toNat_natCast, Nat.zero_add, eA]
        ((repeat' first | with_reducible refine nN_h rfl ?_ | with_reducible refine V.brT ?_ | with_reducible refine V.brF ?_ | with_reducible refine V.needI ?_ ?_) <;> (try first | with_reducible exact V.okI | exact rfl | exact ⟨Nat.le_refl _, rfl⟩ | exact Nat.le_refl _ | assumption | omega | trivial | decide | (intros; rfl) | (intros; trivial)))
        all_goals try first
          | exact preTk3 ⟨rfl, rfl, rfl, rfl, rfl, rfl⟩ (by omega) (by decide)
          | exact fun i _ => ⟨Nat.zero_le _, Nat.zero_le _⟩
          | exact ⟨Nat.zero_lt_one, by omega⟩
          | exact ⟨Int.natCast_nonneg _, by omega⟩
          | exact ⟨_, rfl⟩
          | exact ⟨_, Nat.le_refl _⟩
          | exact Nat.zero_le _
          | exact (show j + 1 ≤ 8 by omega)
        refine V.anyI fun c1 hc1 => ?_
        ((repeat' first | with_reducible refine nN_h rfl ?_ | with_reducible refine V.brT ?_ | with_reducible refine V.brF ?_ | with_reducible refine V.needI ?_ ?_) <;> (try first | with_reducible exact V.okI | exact rfl | exact ⟨Nat.le_refl _, rfl⟩ | exact Nat.le_refl _ | assumption | omega | trivial | decide | (intros; rfl) | (intros; trivial)))
        all_goals try first
          | exact preTk3 ⟨rfl, rfl, rfl, rfl, rfl, rfl⟩ (by omega) (by decide)
          | exact fun i _ => ⟨Nat.zero_le _, Nat.zero_le _⟩
          | exact ⟨Nat.zero_lt_one, by omega⟩
          | exact ⟨Int.natCast_nonneg _, by omega⟩
          | exact ⟨_, rfl⟩
          | exact ⟨_, Nat.le_refl _⟩
          | exact Nat.zero_le _
          | exact (show j + 1 ≤ 8 by omega)
        all_goals try first
          | exact ⟨Nat.le_refl _, hc1⟩
          | exact ⟨err9 (okN3 ⟨rfl, rfl, rfl, rfl, rfl, rfl⟩ rfl rfl rfl) rfl rfl rfl, (ncN3 ⟨rfl, rfl, rfl, rfl, rfl, rfl⟩).symm, ⟨hlv.1, hlv.2⟩, rB.ok⟩
        first
          | (have hE : dqE m := Eq.mp (if_neg (fun h => Bool.false_ne_true h.1)) rD
             refine V.brI (fun h => (ent_f h (E0 hE ⟨rfl, rfl, rfl, rfl, rfl, rfl⟩)).elim) fun _ => ?_
             ((repeat' first | with_reducible refine nN_h rfl ?_ | with_reducible refine V.brT ?_ | with_reducible refine V.brF ?_ | with_reducible refine V.needI ?_ ?_) <;> (try first | with_reducible exact V.okI | exact rfl | exact ⟨Nat.le_refl _, rfl⟩ | exact Nat.le_refl _ | assumption | omega | trivial | decide | (intros; rfl) | (intros; trivial)))
             all_goals try first
               | exact preTk3 ⟨rfl, rfl, rfl, rfl, rfl, rfl⟩ (by omega) (by decide)
               | exact fun i _ => ⟨Nat.zero_le _, Nat.zero_le _⟩
               | exact ⟨Nat.zero_lt_one, by omega⟩
               | exact ⟨Int.natCast_nonneg _, by omega⟩
               | exact ⟨_, rfl⟩
               | exact ⟨_, Nat.le_refl _⟩
               | exact Nat.zero_le _
               | exact (show j + 1 ≤ 8 by omega)
             done)
          | (by_cases hcc : bf (N - 1) < lv
             · have hP : ∀ {c : Cf}, c3p c → entN c (fun e => m.g e) lv = 1 := fun hc => E1 (Eq.mp (if_pos ⟨rfl, hcc⟩) rD) hc
               have hQ : ∀ {c : Cf}, c3p c → entE c (fun e => m.g e) lv 0 = ((N - 1 : Nat) : Int) := fun hc => E2 (Eq.mp (if_pos ⟨rfl, hcc⟩) rD) hc
               refine V.brI (fun _ => ?_) (fun h => (ent_t h (hP ⟨rfl, rfl, rfl, rfl, rfl, rfl⟩) (by decide)).elim)
               ((repeat' first | with_reducible refine nN_h rfl ?_ | with_reducible refine V.brT ?_ | with_reducible refine V.brF ?_ | with_reducible refine V.needI ?_ ?_) <;> (try first | with_reducible exact V.okI | exact rfl | exact ⟨Nat.le_refl _, rfl⟩ | exact Nat.le_refl _ | assumption | omega | trivial | decide | (intros; rfl) | (intros; trivial)))
               all_goals try first
                 | exact preTk3 ⟨rfl, rfl, rfl, rfl, rfl, rfl⟩ (by omega) (by decide)
                 | exact fun i _ => ⟨Nat.zero_le _, Nat.zero_le _⟩
                 | exact ⟨Nat.zero_lt_one, by omega⟩
                 | exact ⟨Int.natCast_nonneg _, by omega⟩
                 | exact ⟨_, rfl⟩
                 | exact ⟨_, Nat.le_refl _⟩
                 | exact Nat.zero_le _
                 | exact (show j + 1 ≤ 8 by omega)
               refine V.anyI fun cp hcp => ?_
               ((repeat' first | with_reducible refine nN_h rfl ?_ | with_reducible refine V.brT ?_ | with_reducible refine V.brF ?_ | with_reducible refine V.needI ?_ ?_) <;> (try first | with_reducible exact V.okI | exact rfl | exact ⟨Nat.le_refl _, rfl⟩ | exact Nat.le_refl _ | assumption | omega | trivial | decide | (intros; rfl) | (intros; trivial)))
               all_goals try first
                 | exact preTk3 ⟨rfl, rfl, rfl, rfl, rfl, rfl⟩ (by omega) (by decide)
                 | exact fun i _ => ⟨Nat.zero_le _, Nat.zero_le _⟩
                 | exact ⟨Nat.zero_lt_one, by omega⟩
                 | exact ⟨Int.natCast_nonneg _, by omega⟩
                 | exact ⟨_, rfl⟩
                 | exact ⟨_, Nat.le_refl _⟩
                 | exact Nat.zero_le _
                 | exact (show j + 1 ≤ 8 by omega)
               refine V.brI (fun _ => ?_) (fun h => (dlf hcc h).elim)
               refine V.brI (fun _ => ?_) (fun h => (ent_g h (hP ⟨rfl, rfl, rfl, rfl, rfl, rfl⟩)).elim)
               ((repeat' first | with_reducible refine nN_h rfl ?_ | with_reducible refine V.brT ?_ | with_reducible refine V.brF ?_ | with_reducible refine V.needI ?_ ?_) <;> (try first | with_reducible exact V.okI | exact rfl | exact ⟨Nat.le_refl _, rfl⟩ | exact Nat.le_refl _ | assumption | omega | trivial | decide | (intros; rfl) | (intros; trivial)))
               all_goals try first
                 | exact preTk3 ⟨rfl, rfl, rfl, rfl, rfl, rfl⟩ (by omega) (by decide)
                 | exact fun i _ => ⟨Nat.zero_le _, Nat.zero_le _⟩
                 | exact ⟨Nat.zero_lt_one, by omega⟩
                 | exact ⟨Int.natCast_nonneg _, by omega⟩
                 | exact ⟨_, rfl⟩
                 | exact ⟨_, Nat.le_refl _⟩
                 | exact Nat.zero_le _
                 | exact (show j + 1 ≤ 8 by omega)
               all_goals first
                 | exact ⟨by decide, ent_p (hP ⟨rfl, rfl, rfl, rfl, rfl, rfl⟩)⟩
                 | exact ⟨by decide, ent_q (hP ⟨rfl, rfl, rfl, rfl, rfl, rfl⟩)⟩
                 | exact ent_q (hP ⟨rfl, rfl, rfl, rfl, rfl, rfl⟩)
                 | exact beq_iff_eq.2 (hQ ⟨rfl, rfl, rfl, rfl, rfl, rfl⟩)
             · have hE : dqE m := Eq.mp (if_neg (fun h => hcc h.2)) rD
               refine V.brI (fun h => (ent_f h (E0 hE ⟨rfl, rfl, rfl, rfl, rfl, rfl⟩)).elim) fun _ => ?_
               ((repeat' first | with_reducible refine nN_h rfl ?_ | with_reducible refine V.brT ?_ | with_reducible refine V.brF ?_ | with_reducible refine V.needI ?_ ?_) <;> (try first | with_reducible exact V.okI | exact rfl | exact ⟨Nat.le_refl _, rfl⟩ | exact Nat.le_refl _ | assumption | omega | trivial | decide | (intros; rfl) | (intros; trivial)))
               all_goals try first
                 | exact preTk3 ⟨rfl, rfl, rfl, rfl, rfl, rfl⟩ (by omega) (by decide)
                 | exact fun i _ => ⟨Nat.zero_le _, Nat.zero_le _⟩
                 | exact ⟨Nat.zero_lt_one, by omega⟩
                 | exact ⟨Int.natCast_nonneg _, by omega⟩
                 | exact ⟨_, rfl⟩
                 | exact ⟨_, Nat.le_refl _⟩
                 | exact Nat.zero_le _
                 | exact (show j + 1 ≤ 8 by omega)
               refine V.brI (fun h => (dlt hcc h).elim) fun _ => V.okI)
theorem wf8 {n : Int} (h : (Lit.int .u8 n).wf = true) : 0 ≤ n ∧ n ≤ 255 := by
  simp [Lit.wf, IntKind.min, IntKind.max, IntKind.bits, IntKind.signed] at h; omega
theorem walkBl (a : Option Addr) (len cap : Nat) (g : Nat → Int) (to : Int) (rd : Bool) (W : World) (h : IsInts .u8 W a len cap g) (ht : (Lit.int .u8 to).wf = true) :
    Calls P 13 #[.slice a len cap, .int .u8 to, .bool rd] W fun e w' => e = .returned (.bool true) ∧ Below W.heap.size W w' := by
  refine calls_yesV (vs := [.slice a len cap, .int .u8 to, .bool rd]) (conBl_ok _ _ _) (ρ := fun k i => if k = 0 ∧ i = 0 then addr0 a else none) (vhBl (fun e he => wf8 (h.fits e he)) (wf8 ht)) (views_inv fun k b hk => ?_) ⟨h.val (by simp) ⟨Nat.le_of_ble_eq_true rfl, trivial⟩, fun _ _ => rfl, fun _ _ => rfl, trivial⟩
  rw [find_cons] at hk
  split at hk
  · rename_i e; subst e
    cases hk
    exact ⟨rfl, by decide, h.sat (by simp)⟩
  · cases hk
end Go.Proofs.Ytomaagmleafjeaa.Md
