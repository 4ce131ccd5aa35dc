/- ProbeFinds: the law: the conditions, printed by program. -/
import Derived.Test.YtimklokgjmdobaaMMdLpD
import Derived.Test.YtimklokgjmdobaaMW
import Derived.Test.YtimklokgjmdobaaMV
import Derived.Test.YtimklokgjmdobaaMNw
set_option linter.unusedVariables false
set_option linter.unusedSimpArgs false
set_option maxRecDepth 100000
namespace Go.Proofs.Ytimklokgjmdobaa.Md
open Go Go.RowKit Sx Cn Dc Ck Vc

theorem verLp_eq (g : Nat → Int) (n cap : Nat) (w d : Int) (I : XLp → Prop) : V.pr .z (verLp g n cap w d I) =
  V.br ((↑n : Int) == Int.ofNat 0) (V.ok) (V.br (decide ((↑n : Int) > Int.ofNat 16)) (V.ok) (V.need ((U8 0 fun (x : Nat) => Int.ofNat 0) ∧ 0 ≤ 9) (V.need (∃ (x : Nat × Nat × (Nat → Nat)), 1 ≤ x.fst) (V.any (Nat × Nat × (Nat → Nat)) (fun (x : Nat × Nat × (Nat → Nat)) => 1 ≤ x.fst) fun (x : Nat × Nat × (Nat → Nat)) => nN [qE ((↑n : Int)), (6, .eqI 1 1), (1, .eqI 0 0), (1, .eqI 1 1), (1, .eq 1 1), qE x.fst, (1, .eq 0 0), qE x.snd.fst, (1, .le 1 1)] (V.need (1 ≤ 1 ∧ 1 ≤ x.fst) (nN [(1, .pf (∀ (i e : Nat), i = 0 ∧ e < 1 → e = e) (by intros; rfl)), (1, .pf (∀ (i e : Nat), i = 0 ∧ e < 1 → 0 = 0) (by intros; rfl)), (1, .pf (∀ (i e : Nat), i = 0 ∧ e < 1 → x.snd.snd e = x.snd.snd e) (by intros; rfl)), (1, .le 1 1)] (V.need (0 ≤ 0 ∧ 0 ≤ x.snd.fst) (nN [(1, .pf (∀ (i e : Nat), i = 0 ∧ e < 0 → uP (fun (x : Nat) => Int.ofNat 0) 0 e = uP (fun (x : Nat) => Int.ofNat 0) 0 e) (by intros; rfl)), (1, .pf (∀ (i e : Nat), i = 0 ∧ e < 0 → uL (fun (x : Nat) => Int.ofNat 0) 0 e = uL (fun (x : Nat) => Int.ofNat 0) 0 e) (by intros; rfl)), (1, .pf (∀ (i e : Nat), i = 0 ∧ e < 0 → uD (fun (x : Nat) => Int.ofNat 0) 0 e = uD (fun (x : Nat) => Int.ofNat 0) 0 e) (by intros; rfl))] (V.need (∀ (i : Nat), i < 1 → 0 ≤ gd 1 (fun (x : Nat) => 0) i ∧ 0 ≤ gd 1 x.snd.snd i) (nN [(1, .pf (∀ (i e : Nat), i < 1 ∧ e < 0 → cO (fun (x : Nat) => Int.ofNat 0) 0 i e = cO (fun (x : Nat) => Int.ofNat 0) 0 i e) (by intros; rfl)), (1, .pf (∀ (i e : Nat), i < 1 ∧ e < 0 → cA (fun (x : Nat) => Int.ofNat 0) 0 i e = cA (fun (x : Nat) => Int.ofNat 0) 0 i e) (by intros; rfl)), (1, .pf (∀ (i e : Nat), i < 1 ∧ e < 0 → cB (fun (x : Nat) => Int.ofNat 0) 0 i e = cB (fun (x : Nat) => Int.ofNat 0) 0 i e) (by intros; rfl))] (V.need (errE (Cf.mk (↑n : Int) (Int.ofNat 1) (Int.ofNat 1) (Int.ofNat 1) (Int.ofNat 1) (Int.ofNat 1) (Int.ofNat 1) (Int.ofNat 0) (Int.ofNat 1) 1 x.fst 0 x.snd.fst (fun (e : Nat) => 0) x.snd.snd (fun (i e : Nat) => cO (fun (x : Nat) => Int.ofNat 0) 0 i e) (fun (i e : Nat) => cA (fun (x : Nat) => Int.ofNat 0) 0 i e) (fun (i e : Nat) => cB (fun (x : Nat) => Int.ofNat 0) 0 i e) (fun (e : Nat) => uP (fun (x : Nat) => Int.ofNat 0) 0 e) (fun (e : Nat) => uL (fun (x : Nat) => Int.ofNat 0) 0 e) fun (e : Nat) => uD (fun (x : Nat) => Int.ofNat 0) 0 e) = Int.ofNat 0) (V.need (∃ (x_1 : Cf × Nat), IsCl (Cf.mk (↑n : Int) (Int.ofNat 1) (Int.ofNat 1) (Int.ofNat 1) (Int.ofNat 1) (Int.ofNat 1) (Int.ofNat 1) (Int.ofNat 0) (Int.ofNat 1) 1 x.fst 0 x.snd.fst (fun (e : Nat) => 0) x.snd.snd (fun (i e : Nat) => cO (fun (x : Nat) => Int.ofNat 0) 0 i e) (fun (i e : Nat) => cA (fun (x : Nat) => Int.ofNat 0) 0 i e) (fun (i e : Nat) => cB (fun (x : Nat) => Int.ofNat 0) 0 i e) (fun (e : Nat) => uP (fun (x : Nat) => Int.ofNat 0) 0 e) (fun (e : Nat) => uL (fun (x : Nat) => Int.ofNat 0) 0 e) fun (e : Nat) => uD (fun (x : Nat) => Int.ofNat 0) 0 e) x_1.fst ∧ (Int.ofNat 1).toNat ≤ x_1.snd) (V.any (Cf × Nat) (fun (x_1 : Cf × Nat) => IsCl (Cf.mk (↑n : Int) (Int.ofNat 1) (Int.ofNat 1) (Int.ofNat 1) (Int.ofNat 1) (Int.ofNat 1) (Int.ofNat 1) (Int.ofNat 0) (Int.ofNat 1) 1 x.fst 0 x.snd.fst (fun (e : Nat) => 0) x.snd.snd (fun (i e : Nat) => cO (fun (x : Nat) => Int.ofNat 0) 0 i e) (fun (i e : Nat) => cA (fun (x : Nat) => Int.ofNat 0) 0 i e) (fun (i e : Nat) => cB (fun (x : Nat) => Int.ofNat 0) 0 i e) (fun (e : Nat) => uP (fun (x : Nat) => Int.ofNat 0) 0 e) (fun (e : Nat) => uL (fun (x : Nat) => Int.ofNat 0) 0 e) fun (e : Nat) => uD (fun (x : Nat) => Int.ofNat 0) 0 e) x_1.fst ∧ (Int.ofNat 1).toNat ≤ x_1.snd) fun (x_1 : Cf × Nat) => nN [(1, .pf (∃ (x_2 : Nat × Int), x_2 = (ncN (Cf.mk (↑n : Int) (Int.ofNat 1) (Int.ofNat 1) (Int.ofNat 1) (Int.ofNat 1) (Int.ofNat 1) (Int.ofNat 1) (Int.ofNat 0) (Int.ofNat 1) 1 x.fst 0 x.snd.fst (fun (e : Nat) => 0) x.snd.snd (fun (i e : Nat) => cO (fun (x : Nat) => Int.ofNat 0) 0 i e) (fun (i e : Nat) => cA (fun (x : Nat) => Int.ofNat 0) 0 i e) (fun (i e : Nat) => cB (fun (x : Nat) => Int.ofNat 0) 0 i e) (fun (e : Nat) => uP (fun (x : Nat) => Int.ofNat 0) 0 e) (fun (e : Nat) => uL (fun (x : Nat) => Int.ofNat 0) 0 e) fun (e : Nat) => uD (fun (x : Nat) => Int.ofNat 0) 0 e), lT (Cf.mk (↑n : Int) (Int.ofNat 1) (Int.ofNat 1) (Int.ofNat 1) (Int.ofNat 1) (Int.ofNat 1) (Int.ofNat 1) (Int.ofNat 0) (Int.ofNat 1) 1 x.fst 0 x.snd.fst (fun (e : Nat) => 0) x.snd.snd (fun (i e : Nat) => cO (fun (x : Nat) => Int.ofNat 0) 0 i e) (fun (i e : Nat) => cA (fun (x : Nat) => Int.ofNat 0) 0 i e) (fun (i e : Nat) => cB (fun (x : Nat) => Int.ofNat 0) 0 i e) (fun (e : Nat) => uP (fun (x : Nat) => Int.ofNat 0) 0 e) (fun (e : Nat) => uL (fun (x : Nat) => Int.ofNat 0) 0 e) fun (e : Nat) => uD (fun (x : Nat) => Int.ofNat 0) 0 e))) ⟨_, rfl⟩)] (V.any (Nat × Int) (fun (q : Nat × Int) => q = (ncN (Cf.mk (↑n : Int) (Int.ofNat 1) (Int.ofNat 1) (Int.ofNat 1) (Int.ofNat 1) (Int.ofNat 1) (Int.ofNat 1) (Int.ofNat 0) (Int.ofNat 1) 1 x.fst 0 x.snd.fst (fun (e : Nat) => 0) x.snd.snd (fun (i e : Nat) => cO (fun (x : Nat) => Int.ofNat 0) 0 i e) (fun (i e : Nat) => cA (fun (x : Nat) => Int.ofNat 0) 0 i e) (fun (i e : Nat) => cB (fun (x : Nat) => Int.ofNat 0) 0 i e) (fun (e : Nat) => uP (fun (x : Nat) => Int.ofNat 0) 0 e) (fun (e : Nat) => uL (fun (x : Nat) => Int.ofNat 0) 0 e) fun (e : Nat) => uD (fun (x : Nat) => Int.ofNat 0) 0 e), lT (Cf.mk (↑n : Int) (Int.ofNat 1) (Int.ofNat 1) (Int.ofNat 1) (Int.ofNat 1) (Int.ofNat 1) (Int.ofNat 1) (Int.ofNat 0) (Int.ofNat 1) 1 x.fst 0 x.snd.fst (fun (e : Nat) => 0) x.snd.snd (fun (i e : Nat) => cO (fun (x : Nat) => Int.ofNat 0) 0 i e) (fun (i e : Nat) => cA (fun (x : Nat) => Int.ofNat 0) 0 i e) (fun (i e : Nat) => cB (fun (x : Nat) => Int.ofNat 0) 0 i e) (fun (e : Nat) => uP (fun (x : Nat) => Int.ofNat 0) 0 e) (fun (e : Nat) => uL (fun (x : Nat) => Int.ofNat 0) 0 e) fun (e : Nat) => uD (fun (x : Nat) => Int.ofNat 0) 0 e))) fun (x_2 : Nat × Int) => V.need True (V.need (I (XLp.mk (Int.ofNat 0) (Mm.mk (fun (e : Nat) => Int.ofNat 0) (Int.ofNat 0) (Int.ofNat 0) (Int.ofNat 0) (Int.ofNat 0) (Int.ofNat 0)))) (nN [(1, .eqI 0 0), qE x_2.fst, qE x_2.fst, (5, .eqI 0 0), qE x_2.fst, qL x_2.fst, qF x_2.fst (fun (e : Nat) => Int.ofNat 0)] (V.any XLp I fun (x_3 : XLp) => V.br (decide (x_3.i < (↑n : Int)))
 (nN [(14, .lt2 0 1 0 1), qE (IntKind.i64.wrap (Int.ofNat 6 + (↑n : Int))), qE x_3.i, qE ((↑n : Int)), (1, .eqI 1 1)] (V.need (okAt x_3.i (↑n : Int) (IntKind.i64.wrap (Int.ofNat 6 + (↑n : Int))) (Int.ofNat 1)) (nN [qX (IntKind.i64.wrap (Int.ofNat 6 + (↑n : Int)) + x_3.i * Int.ofNat 1)] (V.any Int (fun (r : Int) => r = IntKind.i64.wrap (Int.ofNat 6 + (↑n : Int)) + x_3.i * Int.ofNat 1) fun (x : Int) => V.need (Int.ofNat 0 ≤ x_3.i ∧ x_3.i < (↑n : Int)) (V.need (0 < 1 ∧ 0 + x_3.i.toNat < n) (V.need (0 < 1 ∧ 0 + x_3.i.toNat < n) (nN [qE x, qE (g (0 + x_3.i.toNat)), qE x_2.fst, qE x_2.fst, qE x_3.mm.lk, qE x_3.mm.lc, qE x_3.mm.lo, qE x_3.mm.ln, qE x_3.mm.ct, qE x_2.fst, qL x_2.fst, qF x_2.fst x_3.mm.g, qX (x_3.mm.acc x_2.fst (Int.ofNat 2) x (g (0 + x_3.i.toNat)))] (V.any Mm (fun (m' : Mm) => m' = x_3.mm.acc x_2.fst (Int.ofNat 2) x (g (0 + x_3.i.toNat))) fun (x : Mm) => V.need (I (XLp.mk (IntKind.i64.wrap (x_3.i + Int.ofNat 1)) x)) (V.need ((Int.ofNat 16 - IntKind.i64.wrap (x_3.i + Int.ofNat 1)).toNat < (Int.ofNat 16 - x_3.i).toNat) (nN [qE (IntKind.i64.wrap (x_3.i + Int.ofNat 1)), qE x_2.fst, qE x_2.fst, qE x.lk, qE x.lc, qE x.lo, qE x.ln, qE x.ct, qE x_2.fst, qL x_2.fst, qF x_2.fst x.g] V.ok))))))))))
 (nN [qE x_2.fst, qE x_2.fst, qE x_3.mm.ct, (1, .le 1 1)] (V.need (x_2.fst ≤ x_2.fst ∧ x_2.fst ≤ x_2.fst) (nN [(1, .pf (∀ (i e : Nat), i = 0 ∧ e < x_2.fst → x_3.mm.g e = x_3.mm.g e) (by intros; rfl)), qX x_3.mm.ct] (V.any Int (fun (v : Int) => v = x_3.mm.ct) fun (x_4 : Int) => V.need ((↑n : Int) ≠ Int.ofNat 0) (nN [(1, .eqI 40 40), qE ((↑n : Int)), qE ((↑n : Int)), (5, .eqI 1 1), (1, .eqI 5 5), (1, .eqI 6 6), qE (lB (Cf.mk (↑n : Int) (Int.ofNat 1) (Int.ofNat 1) (Int.ofNat 1) (Int.ofNat 1) (Int.ofNat 1) (Int.ofNat 1) (Int.ofNat 0) (Int.ofNat 1) 1 x.fst 0 x.snd.fst (fun (e : Nat) => 0) x.snd.snd (fun (i e : Nat) => cO (fun (x : Nat) => Int.ofNat 0) 0 i e) (fun (i e : Nat) => cA (fun (x : Nat) => Int.ofNat 0) 0 i e) (fun (i e : Nat) => cB (fun (x : Nat) => Int.ofNat 0) 0 i e) (fun (e : Nat) => uP (fun (x : Nat) => Int.ofNat 0) 0 e) (fun (e : Nat) => uL (fun (x : Nat) => Int.ofNat 0) 0 e) fun (e : Nat) => uD (fun (x : Nat) => Int.ofNat 0) 0 e)), qE (lQ (Cf.mk (↑n : Int) (Int.ofNat 1) (Int.ofNat 1) (Int.ofNat 1) (Int.ofNat 1) (Int.ofNat 1) (Int.ofNat 1) (Int.ofNat 0) (Int.ofNat 1) 1 x.fst 0 x.snd.fst (fun (e : Nat) => 0) x.snd.snd (fun (i e : Nat) => cO (fun (x : Nat) => Int.ofNat 0) 0 i e) (fun (i e : Nat) => cA (fun (x : Nat) => Int.ofNat 0) 0 i e) (fun (i e : Nat) => cB (fun (x : Nat) => Int.ofNat 0) 0 i e) (fun (e : Nat) => uP (fun (x : Nat) => Int.ofNat 0) 0 e) (fun (e : Nat) => uL (fun (x : Nat) => Int.ofNat 0) 0 e) fun (e : Nat) => uD (fun (x : Nat) => Int.ofNat 0) 0 e)), qE x_2.snd, qE x_2.fst, qE x_2.fst, qE x_3.mm.lk, qE x_3.mm.lc, qE x_3.mm.lo, qE x_3.mm.ln, qE x_3.mm.ct, qE x_2.fst, qL x_2.fst, qF x_2.fst x_3.mm.g, qE false, (2, .eqI 0 0), qE ((IntKind.i64.wrap w).tmod (↑n : Int)), qE false, (18, .eqI 0 0), qE d] (V.need (preA (Ly.mk (↑n : Int) (Int.ofNat 1) (Int.ofNat 1) (Int.ofNat 1) (Int.ofNat 1) (Int.ofNat 1) (Int.ofNat 5) (Int.ofNat 6) (lB (Cf.mk (↑n : Int) (Int.ofNat 1) (Int.ofNat 1) (Int.ofNat 1) (Int.ofNat 1) (Int.ofNat 1) (Int.ofNat 1) (Int.ofNat 0) (Int.ofNat 1) 1 x.fst 0 x.snd.fst (fun (e : Nat) => 0) x.snd.snd (fun (i e : Nat) => cO (fun (x : Nat) => Int.ofNat 0) 0 i e) (fun (i e : Nat) => cA (fun (x : Nat) => Int.ofNat 0) 0 i e) (fun (i e : Nat) => cB (fun (x : Nat) => Int.ofNat 0) 0 i e) (fun (e : Nat) => uP (fun (x : Nat) => Int.ofNat 0) 0 e) (fun (e : Nat) => uL (fun (x : Nat) => Int.ofNat 0) 0 e) fun (e : Nat) => uD (fun (x : Nat) => Int.ofNat 0) 0 e)) (lQ (Cf.mk (↑n : Int) (Int.ofNat 1) (Int.ofNat 1) (Int.ofNat 1) (Int.ofNat 1) (Int.ofNat 1) (Int.ofNat 1) (Int.ofNat 0) (Int.ofNat 1) 1 x.fst 0 x.snd.fst (fun (e : Nat) => 0) x.snd.snd (fun (i e : Nat) => cO (fun (x : Nat) => Int.ofNat 0) 0 i e) (fun (i e : Nat) => cA (fun (x : Nat) => Int.ofNat 0) 0 i e) (fun (i e : Nat) => cB (fun (x : Nat) => Int.ofNat 0) 0 i e) (fun (e : Nat) => uP (fun (x : Nat) => Int.ofNat 0) 0 e) (fun (e : Nat) => uL (fun (x : Nat) => Int.ofNat 0) 0 e) fun (e : Nat) => uD (fun (x : Nat) => Int.ofNat 0) 0 e)) x_2.snd) x_2.fst ((IntKind.i64.wrap w).tmod (↑n : Int)) x_3.mm) (V.need (∃ (x_5 : Rp), φPf (Ly.mk (↑n : Int) (Int.ofNat 1) (Int.ofNat 1) (Int.ofNat 1) (Int.ofNat 1) (Int.ofNat 1) (Int.ofNat 5) (Int.ofNat 6) (lB (Cf.mk (↑n : Int) (Int.ofNat 1) (Int.ofNat 1) (Int.ofNat 1) (Int.ofNat 1) (Int.ofNat 1) (Int.ofNat 1) (Int.ofNat 0) (Int.ofNat 1) 1 x.fst 0 x.snd.fst (fun (e : Nat) => 0) x.snd.snd (fun (i e : Nat) => cO (fun (x : Nat) => Int.ofNat 0) 0 i e) (fun (i e : Nat) => cA (fun (x : Nat) => Int.ofNat 0) 0 i e) (fun (i e : Nat) => cB (fun (x : Nat) => Int.ofNat 0) 0 i e) (fun (e : Nat) => uP (fun (x : Nat) => Int.ofNat 0) 0 e) (fun (e : Nat) => uL (fun (x : Nat) => Int.ofNat 0) 0 e) fun (e : Nat) => uD (fun (x : Nat) => Int.ofNat 0) 0 e)) (lQ (Cf.mk (↑n : Int) (Int.ofNat 1) (Int.ofNat 1) (Int.ofNat 1) (Int.ofNat 1) (Int.ofNat 1) (Int.ofNat 1) (Int.ofNat 0) (Int.ofNat 1) 1 x.fst 0 x.snd.fst (fun (e : Nat) => 0) x.snd.snd (fun (i e : Nat) => cO (fun (x : Nat) => Int.ofNat 0) 0 i e) (fun (i e : Nat) => cA (fun (x : Nat) => Int.ofNat 0) 0 i e) (fun (i e : Nat) => cB (fun (x : Nat) => Int.ofNat 0) 0 i e) (fun (e : Nat) => uP (fun (x : Nat) => Int.ofNat 0) 0 e) (fun (e : Nat) => uL (fun (x : Nat) => Int.ofNat 0) 0 e) fun (e : Nat) => uD (fun (x : Nat) => Int.ofNat 0) 0 e)) x_2.snd) ((IntKind.i64.wrap w).tmod (↑n : Int)) d x_3.mm x_5) (V.any Rp (φPf (Ly.mk (↑n : Int) (Int.ofNat 1) (Int.ofNat 1) (Int.ofNat 1) (Int.ofNat 1) (Int.ofNat 1) (Int.ofNat 5) (Int.ofNat 6) (lB (Cf.mk (↑n : Int) (Int.ofNat 1) (Int.ofNat 1) (Int.ofNat 1) (Int.ofNat 1) (Int.ofNat 1) (Int.ofNat 1) (Int.ofNat 0) (Int.ofNat 1) 1 x.fst 0 x.snd.fst (fun (e : Nat) => 0) x.snd.snd (fun (i e : Nat) => cO (fun (x : Nat) => Int.ofNat 0) 0 i e) (fun (i e : Nat) => cA (fun (x : Nat) => Int.ofNat 0) 0 i e) (fun (i e : Nat) => cB (fun (x : Nat) => Int.ofNat 0) 0 i e) (fun (e : Nat) => uP (fun (x : Nat) => Int.ofNat 0) 0 e) (fun (e : Nat) => uL (fun (x : Nat) => Int.ofNat 0) 0 e) fun (e : Nat) => uD (fun (x : Nat) => Int.ofNat 0) 0 e)) (lQ (Cf.mk (↑n : Int) (Int.ofNat 1) (Int.ofNat 1) (Int.ofNat 1) (Int.ofNat 1) (Int.ofNat 1) (Int.ofNat 1) (Int.ofNat 0) (Int.ofNat 1) 1 x.fst 0 x.snd.fst (fun (e : Nat) => 0) x.snd.snd (fun (i e : Nat) => cO (fun (x : Nat) => Int.ofNat 0) 0 i e) (fun (i e : Nat) => cA (fun (x : Nat) => Int.ofNat 0) 0 i e) (fun (i e : Nat) => cB (fun (x : Nat) => Int.ofNat 0) 0 i e) (fun (e : Nat) => uP (fun (x : Nat) => Int.ofNat 0) 0 e) (fun (e : Nat) => uL (fun (x : Nat) => Int.ofNat 0) 0 e) fun (e : Nat) => uD (fun (x : Nat) => Int.ofNat 0) 0 e)) x_2.snd) ((IntKind.i64.wrap w).tmod (↑n : Int)) d x_3.mm) fun (x : Rp) => V.need ((↑n : Int) ≠ Int.ofNat 0) (nN [qE d, qE ((↑n : Int))] (V.need ((↑n : Int) ≤ Int.ofNat 9223372036854775807) (nN [qX (dr d (↑n : Int))] (V.any Int (fun (r : Int) => r = dr d (↑n : Int)) fun (x_5 : Int) => nN [qE n, qE cap, qE ((IntKind.i64.wrap w).tmod (↑n : Int)), qE x_5, (1, .le 1 1), (1, .pf (∀ (i : Nat), i < 1 → n ≤ n) (by intros; exact Nat.le_refl _)), (1, .pf (∀ (i e : Nat), i < 1 ∧ e < n → g e = g e) (by intros; rfl))] (V.need (n ≤ 1000000 ∧ ∀ (j : Nat), j < n → Int.ofNat 0 ≤ g j ∧ g j ≤ Int.ofNat 18446744073709551615) (V.br (x.k != max (Int.ofNat 1) (IntKind.i64.wrap ((↑n : Int) - Int.ofNat 1))) (V.bad 420) (nN [qE x_2.fst, qE x_2.fst, qE x.m.ct, (1, .le 1 1)] (V.need (x_2.fst ≤ x_2.fst ∧ x_2.fst ≤ x_2.fst) (nN [(1, .pf (∀ (i e : Nat), i = 0 ∧ e < x_2.fst → x.m.g e = x.m.g e) (by intros; rfl)), qX x.m.ct] (V.any Int (fun (v : Int) => v = x.m.ct) fun (x_6 : Int) => V.br (IntKind.i64.wrap (x_6 - x_4) != IntKind.i64.wrap ((↑n : Int) - Int.ofNat 1)) (V.bad 420) (V.br (decide ((chRun g (↑n : Int) ((IntKind.i64.wrap w).tmod (↑n : Int)) (dr x_5 (↑n : Int)) n).fst < Int.ofNat 0))
 (V.br (x.c == Int.ofNat 2) (V.need ((x.v == Int.ofNat 0) = true) V.ok) (V.bad 420))
 (V.br (x.c == Int.ofNat 1) (V.need ((x.v == IntKind.i64.wrap (IntKind.i64.wrap ((chRun g (↑n : Int) ((IntKind.i64.wrap w).tmod (↑n : Int)) (dr x_5 (↑n : Int)) n).fst * Int.ofNat 64) + (chRun g (↑n : Int) ((IntKind.i64.wrap w).tmod (↑n : Int)) (dr x_5 (↑n : Int)) n).snd)) = true) V.ok) (V.bad 420)))))))))))))))))))))))))))))))))))))) := by kernel_rfl


end Go.Proofs.Ytimklokgjmdobaa.Md

/- ProbeFinds: the law holds of what is computed. -/
set_option maxRecDepth 100000
namespace Go.Proofs.Ytimklokgjmdobaa.Md
open Go Go.RowKit Sx Cn Dc Ck Vc
def iLp (g : Nat → Int) (n : Nat) (z : XLp) : Prop := (0 ≤ z.i ∧ z.i ≤ n) ∧ z.mm.ct = z.i ∧ (∀ e, 0 ≤ z.mm.g e ∧ z.mm.g e ≤ 18446744073709551615) ∧ ∀ j : Nat, (j : Int) < z.i → z.mm.g (6 + n + j) = g j
def isC (n : Nat) (c : Cf) : Prop := c.W = n ∧ c.L = 1 ∧ c.C = 1 ∧ c.T = 1 ∧ c.D = 1 ∧ c.H = 1
section
variable {g : Nat → Int} {n N : Nat} {w d a : Int} {z : XLp} {m : Mm} {c : Cf} {x : Nat × Int} {r : Rp}
theorem u8_z : (U8 0 fun (_ : Nat) => Int.ofNat 0) ∧ 0 ≤ 9 := ⟨fun e he => absurd he (Nat.not_lt_zero _), by decide⟩
theorem lp_N (h : x = (ncN c, lT c)) (hc : isC n c) : 11 + 5 * n ≤ x.1 := by
  obtain ⟨h1, h2, h3, h4, h5, h6⟩ := hc
  rw [h]
  show _ ≤ (ncI c).toNat
  unfold ncI lT lQ
  rw [h1, h2, h3, h4, h5, h6]
  omega
theorem lp_0 : iLp g n ⟨Int.ofNat 0, ⟨fun _ => Int.ofNat 0, Int.ofNat 0, Int.ofNat 0, Int.ofNat 0, Int.ofNat 0, Int.ofNat 0⟩⟩ := ⟨⟨Int.le_refl 0, Int.natCast_nonneg _⟩, rfl, fun e => ⟨Int.le_refl 0, by show (0 : Int) ≤ 18446744073709551615; decide⟩, fun j hj => by have hj : (j : Int) < 0 := hj; omega⟩
theorem lp_at (hn : n ≤ 16) (hi : iLp g n z) (hl : decide (z.i < (n : Int)) = true) : okAt z.i (n : Int) (IntKind.i64.wrap (Int.ofNat 6 + n)) (Int.ofNat 1) := by
  have hl := of_decide_eq_true hl
  have h0 := hi.1
  have e : IntKind.i64.wrap (Int.ofNat 6 + n) = 6 + n := w64 (by show _ ≤ 6 + (n : Int) ∧ 6 + (n : Int) ≤ _; omega)
  rw [e]
  refine ⟨by omega, ?_, by omega⟩
  show 0 ≤ z.i * 1 ∧ z.i * 1 ≤ 1000000
  omega
theorem lp_i (hi : iLp g n z) (hl : decide (z.i < (n : Int)) = true) : Int.ofNat 0 ≤ z.i ∧ z.i < n := ⟨hi.1.1, of_decide_eq_true hl⟩
theorem lp_j (hi : iLp g n z) (hl : decide (z.i < (n : Int)) = true) : 0 < 1 ∧ 0 + z.i.toNat < n := by
  have := lp_i hi hl
  have h1 := hi.1.1
  omega
theorem lp_w (hn : n ≤ 16) (hi : iLp g n z) (hl : decide (z.i < (n : Int)) = true) : IntKind.i64.wrap (z.i + Int.ofNat 1) = z.i + 1 := by
  have := lp_i hi hl
  have h1 := hi.1
  exact w64 (by show _ ≤ z.i + 1 ∧ z.i + 1 ≤ _; omega)
theorem lp_mu (hn : n ≤ 16) (hi : iLp g n z) (hl : decide (z.i < (n : Int)) = true) : (Int.ofNat 16 - IntKind.i64.wrap (z.i + Int.ofNat 1)).toNat < (Int.ofNat 16 - z.i).toNat := by
  have h2 := lp_i hi hl
  have h1 := hi.1
  rw [lp_w hn hi hl]
  show ((16 : Int) - _).toNat < ((16 : Int) - _).toNat
  omega
theorem lp_s (hg : ∀ j, j < n → 0 ≤ g j ∧ g j ≤ 18446744073709551615) (hn : n ≤ 16) (hN : 11 + 5 * n ≤ N) (hi : iLp g n z) (hl : decide (z.i < (n : Int)) = true) (ha : a = IntKind.i64.wrap (Int.ofNat 6 + n) + z.i * Int.ofNat 1) (hm : m = z.mm.acc N (Int.ofNat 2) a (g (0 + z.i.toNat))) : iLp g n ⟨IntKind.i64.wrap (z.i + Int.ofNat 1), m⟩ := by
  have h2 : z.i < n := (lp_i hi hl).2
  have e : IntKind.i64.wrap (Int.ofNat 6 + n) = 6 + n := w64 (by show _ ≤ 6 + (n : Int) ∧ 6 + (n : Int) ≤ _; omega)
  rw [lp_w hn hi hl]
  obtain ⟨h1, h3, h4, h5⟩ := hi
  have ha : a = 6 + n + z.i := by rw [ha, e]; show (6 : Int) + n + z.i * 1 = _; omega
  have hgz := hg z.i.toNat (by omega)
  rw [Nat.zero_add] at hm
  refine ⟨by show 0 ≤ z.i + 1 ∧ z.i + 1 ≤ n; omega, ?_, fun e => ?_, fun j hj => ?_⟩
  · rw [hm]
    unfold Mm.acc
    rw [inb_t (by omega) (by omega)]
    show IntKind.i64.wrap (z.mm.ct + 1) = z.i + 1
    rw [h3, w64 (by omega)]
  · rw [hm]
    exact Mm.ok_acc h4 hgz e
  · have hj : (j : Int) < z.i + 1 := hj
    show m.g _ = _
    rw [hm]
    by_cases hji : (j : Int) = z.i
    · rw [Mm.acc_eq (by omega) (by omega) (by omega), show z.i.toNat = j by omega]
    · rw [Mm.acc_ne (by omega)]
      exact h5 j (by omega)
theorem lp_n0 (h0 : ((n : Int) == Int.ofNat 0) = false) : (n : Int) ≠ Int.ofNat 0 := fun e => by rw [e] at h0; cases h0
theorem lp_16 (h1 : decide ((n : Int) > Int.ofNat 16) = false) : n ≤ 16 := by have h1 : ¬ (n : Int) > 16 := of_decide_eq_false h1; omega
theorem lp_m (h : n ≤ 16) : (n : Int) ≤ Int.ofNat 9223372036854775807 := by show (n : Int) ≤ 9223372036854775807; omega
theorem lp_e (hi : iLp g n z) (hl : decide (z.i < (n : Int)) = false) : z.i = n := by have hl := of_decide_eq_false hl; have := hi.1; omega
theorem lp_u (hw : 0 ≤ w ∧ w ≤ 255) : IntKind.i64.wrap w = w := w64 (by omega)
theorem lp_self (h0 : (n : Int) ≠ Int.ofNat 0) (hw : 0 ≤ w ∧ w ≤ 255) : 0 ≤ (IntKind.i64.wrap w).tmod n ∧ (IntKind.i64.wrap w).tmod n < n := by
  have h9 : (n : Int) ≠ 0 := h0
  clear h0
  rw [lp_u hw, Int.tmod_eq_emod_of_nonneg hw.1]
  have h8 : (0 : Int) < n := by omega
  exact ⟨Int.emod_nonneg _ h9, Int.emod_lt_of_pos _ h8⟩
theorem lp_pre {y : Ly} (hyW : y.W = n) (hyb : y.bm = lB c) (hc : isC n c) (h0 : (n : Int) ≠ Int.ofNat 0) (hn : n ≤ 16) (hN : 11 + 5 * n ≤ N) (hw : 0 ≤ w ∧ w ≤ 255) (hi : iLp g n z) (hl : decide (z.i < (n : Int)) = false) : preA y N ((IntKind.i64.wrap w).tmod n) z.mm := by
  have h0' : (n : Int) ≠ 0 := h0
  have hb : y.bm = 6 + n := by
    obtain ⟨h1, h2, h3, h4, h5, h6⟩ := hc
    rw [hyb]
    unfold lB
    rw [h1, h3, h6]
    omega
  have he := lp_e hi hl
  refine ⟨by omega, by rw [hyW]; exact lp_self h0 hw, by omega, hi.2.2.1, by rw [hi.2.1]; omega⟩
theorem lp_bm {y : Ly} (hyW : y.W = n) (hyb : y.bm = lB c) (hc : isC n c) (hi : iLp g n z) (hl : decide (z.i < (n : Int)) = false) (self s : Int) (h0 : (n : Int) ≠ Int.ofNat 0) (k : Nat) : chRun (bmW y z.mm) n self s k = chRun g n self s k := by
  have h0' : (n : Int) ≠ 0 := h0
  refine chRun_congr (by omega) (fun j hj _ => ?_) k
  have hb : y.bm = 6 + n := by
    obtain ⟨h1, h2, h3, h4, h5, h6⟩ := hc
    rw [hyb]
    unfold lB
    rw [h1, h3, h6]
    omega
  have he := lp_e hi hl
  have := hi.2.2.2 j (by omega)
  unfold bmW
  rw [hb, show (6 + (n : Int)).toNat = 6 + n by omega]
  exact this
theorem lp_err (h0 : ((n : Int) == Int.ofNat 0) = false) (h1 : decide ((n : Int) > Int.ofNat 16) = false) (hc : isC n c) (hB : c.B = 1 ∧ c.A = 0 ∧ c.P = 1) (hP : c.nP = 1) (hl : c.lenP 0 = 0) (hU : c.nU = 0) : errE c = 0 := by
  refine err9 ?_ hP hl hU
  obtain ⟨c1, c2, c3, c4, c5, c6⟩ := hc
  obtain ⟨c7, c8, c9⟩ := hB
  have h16 := lp_16 h1
  have hn0 : (n : Int) ≠ 0 := lp_n0 h0
  unfold okN
  rw [c1, c2, c3, c4, c5, c6, c7, c8, c9]
  omega
theorem φPf_ex {y : Ly} : ∃ r, φPf y w d m r := ⟨⟨(ansP (chRun (bmW y m) y.W w (dr d y.W) y.W.toNat)).1, (ansP (chRun (bmW y m) y.W w (dr d y.W) y.W.toNat)).2, max 1 (y.W - 1), ⟨m.g, m.lk, m.lc, m.lo, m.ln, m.ct + (y.W - 1)⟩⟩, rfl, rfl, rfl⟩
theorem lp_k {y : Ly} (hy : y.W = n) (h0 : ((n : Int) == Int.ofNat 0) = false) (h1 : decide ((n : Int) > Int.ofNat 16) = false) (hr : φPf y w d m r) (h : (r.k != max (Int.ofNat 1) (IntKind.i64.wrap ((n : Int) - Int.ofNat 1))) = true) : False := by
  have h16 := lp_16 h1
  have e : IntKind.i64.wrap ((n : Int) - Int.ofNat 1) = (n : Int) - 1 := w64 (by show _ ≤ (n : Int) - 1 ∧ (n : Int) - 1 ≤ _; omega)
  rw [e, hr.1, hy] at h
  simp at h
theorem lp_c {y : Ly} {p q : Int} (hy : y.W = n) (h1 : decide ((n : Int) > Int.ofNat 16) = false) (hi : iLp g n z) (hr : φPf y w d z.mm r) (hq : q = z.mm.ct) (hp : p = r.m.ct) (h : (IntKind.i64.wrap (p - q) != IntKind.i64.wrap ((n : Int) - Int.ofNat 1)) = true) : False := by
  rw [hp, hq, hr.2.1, hy, show z.mm.ct + ((n : Int) - 1) - z.mm.ct = (n : Int) - Int.ofNat 1 by show _ = (n : Int) - 1; omega] at h
  simp at h
theorem lp_a {y : Ly} {p : Int} (hy : y.W = n) (hyb : y.bm = lB c) (hc : isC n c) (h0 : ((n : Int) == Int.ofNat 0) = false) (hi : iLp g n z) (hl : decide (z.i < (n : Int)) = false) (hr : φPf y w d z.mm r) (hp : p = dr d n) : (r.c, r.v) = ansP (chRun g n w (dr p n) n) := by
  have hn : (n : Int) ≠ 0 := lp_n0 h0
  have hb := dr_b (a := d) (n := (n : Int)) (by omega)
  have := hr.2.2
  rw [hy, Int.toNat_natCast, lp_bm hy hyb hc hi hl _ _ (lp_n0 h0)] at this
  rw [this, hp, dr_d hb.1 hb.2]
theorem lp_v2 {p : Int × Int} (h : (r.c, r.v) = ansP p) (h1 : decide (p.1 < Int.ofNat 0) = true) : r.c = 2 ∧ r.v = 0 := by
  have h1 : p.1 < 0 := of_decide_eq_true h1
  unfold ansP at h
  rw [if_pos h1] at h
  exact ⟨congrArg Prod.fst h, congrArg Prod.snd h⟩
theorem lp_v1 {p : Int × Int} (h : (r.c, r.v) = ansP p) (h1 : decide (p.1 < Int.ofNat 0) = false) : r.c = 1 ∧ r.v = IntKind.i64.wrap (IntKind.i64.wrap (p.1 * Int.ofNat 64) + p.2) := by
  have h1 : ¬ p.1 < 0 := of_decide_eq_false h1
  unfold ansP at h
  rw [if_neg h1] at h
  exact ⟨congrArg Prod.fst h, congrArg Prod.snd h⟩
theorem beq_t {a b : Int} (h : a = b) : (a == b) = true := by rw [h]; exact beq_self_eq_true _
theorem beq_n {a b : Int} (h : a = b) (h2 : (a == b) = false) : False := by rw [beq_t h] at h2; cases h2
end
set_option maxHeartbeats 8000000 in
theorem vhLp {g : Nat → Int} {n cap : Nat} {w d : Int} (hw : 0 ≤ w ∧ w ≤ 255) (hg : ∀ j, j < n → 0 ≤ g j ∧ g j ≤ 18446744073709551615) : VHolds (verLp g n cap w d (iLp g n)) := by
  refine VHolds.pr (verLp_eq ..) ?_
  (with_reducible repeat' first | exact V.okI | refine V.brT ?_ | refine V.brF ?_ | refine V.brI ?_ ?_ | refine V.anyI ?_ | refine nN_h rfl ?_ | refine V.needI ?_ ?_ | intro _)
  all_goals first
    | exact True.intro
    | rfl
    | exact u8_z
    | exact ⟨(1, 0, fun _ => 0), Nat.le_refl _⟩
    | exact ⟨Nat.le_refl _, by assumption⟩
    | exact ⟨Nat.zero_le _, Nat.zero_le _⟩
    | exact lp_err (by assumption) (by assumption) ⟨rfl, rfl, rfl, rfl, rfl, rfl⟩ ⟨rfl, rfl, rfl⟩ rfl rfl rfl
    | exact ⟨(_, _), is_cl _, Nat.le_refl _⟩
    | exact ⟨_, rfl⟩
    | exact lp_0
    | exact lp_at (lp_16 (by assumption)) (by assumption) (by assumption)
    | exact lp_i (by assumption) (by assumption)
    | exact lp_j (by assumption) (by assumption)
    | exact lp_s hg (lp_16 (by assumption)) (lp_N (by assumption) ⟨rfl, rfl, rfl, rfl, rfl, rfl⟩) (by assumption) (by assumption) (by assumption) (by assumption)
    | exact lp_mu (lp_16 (by assumption)) (by assumption) (by assumption)
    | exact lp_n0 (by assumption)
    | exact lp_pre rfl rfl ⟨rfl, rfl, rfl, rfl, rfl, rfl⟩ (lp_n0 (by assumption)) (lp_16 (by assumption)) (lp_N (by assumption) ⟨rfl, rfl, rfl, rfl, rfl, rfl⟩) hw (by assumption) (by assumption)
    | exact ⟨Nat.le_trans (lp_16 (by assumption)) (by decide), hg⟩
    | exact ⟨Nat.le_refl _, Nat.le_refl _⟩
    | exact φPf_ex
    | exact lp_m (lp_16 (by assumption))
    | exact (lp_k rfl (by assumption) (by assumption) (by assumption) (by assumption)).elim
    | exact (lp_c rfl (by assumption) (by assumption) (by assumption) (by assumption) (by assumption) (by assumption)).elim
    | exact beq_t (lp_v2 (lp_a rfl rfl ⟨rfl, rfl, rfl, rfl, rfl, rfl⟩ (by assumption) (by assumption) (by assumption) (by assumption) (by assumption)) (by assumption)).2
    | exact beq_t (lp_v1 (lp_a rfl rfl ⟨rfl, rfl, rfl, rfl, rfl, rfl⟩ (by assumption) (by assumption) (by assumption) (by assumption) (by assumption)) (by assumption)).2
    | exact (beq_n (lp_v2 (lp_a rfl rfl ⟨rfl, rfl, rfl, rfl, rfl, rfl⟩ (by assumption) (by assumption) (by assumption) (by assumption) (by assumption)) (by assumption)).1 (by assumption)).elim
    | exact (beq_n (lp_v1 (lp_a rfl rfl ⟨rfl, rfl, rfl, rfl, rfl, rfl⟩ (by assumption) (by assumption) (by assumption) (by assumption) (by assumption)) (by assumption)).1 (by assumption)).elim
    | trace_state
theorem w8 {n : Int} (h : (Lit.int .u8 n).wf = true) : 0 ≤ n ∧ n ≤ 255 := by
  simp [Lit.wf, IntKind.min, IntKind.max, IntKind.bits, IntKind.signed] at h; omega
theorem wu64 {n : Int} (h : (Lit.int .u64 n).wf = true) : 0 ≤ n ∧ n ≤ 18446744073709551615 := by
  simp [Lit.wf, IntKind.min, IntKind.max, IntKind.bits, IntKind.signed] at h; omega
theorem walkLp (a : Option Addr) (len cap : Nat) (g : Nat → Int) (w d : Int) (W : World) (h : IsInts .u64 W a len cap g) (hw : (Lit.int .u8 w).wf = true) (hd : (Lit.int .i64 d).wf = true) :
    Calls P 3 #[.slice a len cap, .int .u8 w, .int .i64 d] W fun e w' => e = .returned (.bool true) ∧ Below W.heap.size W w' := by
  refine calls_yesV (vs := [.slice a len cap, .int .u8 w, .int .i64 d]) conLp_ok (ρ := fun k i => if k = 0 ∧ i = 0 then addr0 a else none) (vhLp (w8 hw) (fun e he => wu64 (h.fits e he))) (views_inv fun k b hk => ?_) ⟨h.val (by simp) ⟨Nat.le_of_ble_eq_true rfl, trivial⟩, fun _ _ => rfl, fun _ _ => rfl, trivial⟩
  rw [find_cons] at hk
  split at hk
  · rename_i e; subst e
    cases hk
    exact ⟨rfl, by decide, h.sat (by simp)⟩
  · cases hk
end Go.Proofs.Ytimklokgjmdobaa.Md
