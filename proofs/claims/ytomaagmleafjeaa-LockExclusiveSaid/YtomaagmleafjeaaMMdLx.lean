/- LockExclusive: the conditions, printed by program. -/
import Derived.Test.YtomaagmleafjeaaMMdLxD
import Derived.Test.YtomaagmleafjeaaMW
import Derived.Test.YtomaagmleafjeaaMV
import Derived.Test.YtomaagmleafjeaaMMdBr
import Derived.Test.YtomaagmleafjeaaMMd
set_option linter.unusedVariables false
set_option linter.unusedSimpArgs false
set_option linter.unusedVariables false
set_option maxRecDepth 100000
namespace Go.Proofs.Ytomaagmleafjeaa.Md
open Go Go.RowKit Sx Cn Dc Ck Vc

set_option maxHeartbeats 8000000 in
theorem verLx_eq (a : Int) (g : Nat → Int) (lg cg : Nat) (I1 : XLx → Prop) (I2 : XLx → XLy → Prop) : V.pr (.b .z (.b (.b (.t (.t (.f (.b (.t (.t .z)) (.f .z))))) (.b (.t (.t (.t (.f .z)))) (.b (.t (.t (.f (.b (.t (.t .z)) (.f .z))))) (.t (.t (.f (.b (.t (.t .z)) (.t (.t (.t .z)))))))))) .z)) (verLx a g lg cg I1 I2) =
  V.br (decide ((↑lg : Int) > Int.ofNat 400)) V.ok
    (V.need ((U8 0 fun (x : Nat) => Int.ofNat 0) ∧ 0 ≤ 9)
    (V.need (∃ (x : Nat × Nat × (Nat → Nat)), 1 ≤ x.fst)
    (V.any (Nat × Nat × (Nat → Nat)) (fun (x : Nat × Nat × (Nat → Nat)) => 1 ≤ x.fst) fun (x : Nat × Nat × (Nat → Nat)) => nN [(7, .eqI 1 1), (1, .eqI 0 0), (1, .eqI 1 1), (1, .eq 1 1), qE x.fst, (1, .eq 0 0), qE x.snd.fst, (1, .le 1 1)]
    (V.need (1 ≤ 1 ∧ 1 ≤ x.fst)
    (nN [(1, .pf (∀ (i e : Nat), i = 0 ∧ e < 1 → e = e) (by intros; rfl)), (1, .pf (∀ (i e : Nat), i = 0 ∧ e < 1 → 0 = 0) (by intros; rfl)), (1, .pf (∀ (i e : Nat), i = 0 ∧ e < 1 → x.snd.snd e = x.snd.snd e) (by intros; rfl)), (1, .le 1 1)]
    (V.need (0 ≤ 0 ∧ 0 ≤ x.snd.fst)
    (nN [(1, .pf (∀ (i e : Nat), i = 0 ∧ e < 0 → uP (fun (x : Nat) => Int.ofNat 0) 0 e = uP (fun (x : Nat) => Int.ofNat 0) 0 e) (by intros; rfl)), (1, .pf (∀ (i e : Nat), i = 0 ∧ e < 0 → uL (fun (x : Nat) => Int.ofNat 0) 0 e = uL (fun (x : Nat) => Int.ofNat 0) 0 e) (by intros; rfl)), (1, .pf (∀ (i e : Nat), i = 0 ∧ e < 0 → uD (fun (x : Nat) => Int.ofNat 0) 0 e = uD (fun (x : Nat) => Int.ofNat 0) 0 e) (by intros; rfl))]
    (V.need (∀ (i : Nat), i < 1 → 0 ≤ gd 1 (fun (x : Nat) => 0) i ∧ 0 ≤ gd 1 x.snd.snd i)
    (nN [(1, .pf (∀ (i e : Nat), i < 1 ∧ e < 0 → cO (fun (x : Nat) => Int.ofNat 0) 0 i e = cO (fun (x : Nat) => Int.ofNat 0) 0 i e) (by intros; rfl)), (1, .pf (∀ (i e : Nat), i < 1 ∧ e < 0 → cA (fun (x : Nat) => Int.ofNat 0) 0 i e = cA (fun (x : Nat) => Int.ofNat 0) 0 i e) (by intros; rfl)), (1, .pf (∀ (i e : Nat), i < 1 ∧ e < 0 → cB (fun (x : Nat) => Int.ofNat 0) 0 i e = cB (fun (x : Nat) => Int.ofNat 0) 0 i e) (by intros; rfl))]
    (V.need (errE (Cf.mk (Int.ofNat 1) (Int.ofNat 1) (Int.ofNat 1) (Int.ofNat 1) (Int.ofNat 1) (Int.ofNat 1) (Int.ofNat 1) (Int.ofNat 0) (Int.ofNat 1) 1 x.fst 0 x.snd.fst (fun (e : Nat) => 0) x.snd.snd (fun (i e : Nat) => cO (fun (x : Nat) => Int.ofNat 0) 0 i e) (fun (i e : Nat) => cA (fun (x : Nat) => Int.ofNat 0) 0 i e) (fun (i e : Nat) => cB (fun (x : Nat) => Int.ofNat 0) 0 i e) (fun (e : Nat) => uP (fun (x : Nat) => Int.ofNat 0) 0 e) (fun (e : Nat) => uL (fun (x : Nat) => Int.ofNat 0) 0 e) fun (e : Nat) => uD (fun (x : Nat) => Int.ofNat 0) 0 e) = Int.ofNat 0)
    (V.need (∃ (x_1 : Cf × Nat), IsCl (Cf.mk (Int.ofNat 1) (Int.ofNat 1) (Int.ofNat 1) (Int.ofNat 1) (Int.ofNat 1) (Int.ofNat 1) (Int.ofNat 1) (Int.ofNat 0) (Int.ofNat 1) 1 x.fst 0 x.snd.fst (fun (e : Nat) => 0) x.snd.snd (fun (i e : Nat) => cO (fun (x : Nat) => Int.ofNat 0) 0 i e) (fun (i e : Nat) => cA (fun (x : Nat) => Int.ofNat 0) 0 i e) (fun (i e : Nat) => cB (fun (x : Nat) => Int.ofNat 0) 0 i e) (fun (e : Nat) => uP (fun (x : Nat) => Int.ofNat 0) 0 e) (fun (e : Nat) => uL (fun (x : Nat) => Int.ofNat 0) 0 e) fun (e : Nat) => uD (fun (x : Nat) => Int.ofNat 0) 0 e) x_1.fst ∧ (Int.ofNat 1).toNat ≤ x_1.snd)
    (V.any (Cf × Nat) (fun (x_1 : Cf × Nat) => IsCl (Cf.mk (Int.ofNat 1) (Int.ofNat 1) (Int.ofNat 1) (Int.ofNat 1) (Int.ofNat 1) (Int.ofNat 1) (Int.ofNat 1) (Int.ofNat 0) (Int.ofNat 1) 1 x.fst 0 x.snd.fst (fun (e : Nat) => 0) x.snd.snd (fun (i e : Nat) => cO (fun (x : Nat) => Int.ofNat 0) 0 i e) (fun (i e : Nat) => cA (fun (x : Nat) => Int.ofNat 0) 0 i e) (fun (i e : Nat) => cB (fun (x : Nat) => Int.ofNat 0) 0 i e) (fun (e : Nat) => uP (fun (x : Nat) => Int.ofNat 0) 0 e) (fun (e : Nat) => uL (fun (x : Nat) => Int.ofNat 0) 0 e) fun (e : Nat) => uD (fun (x : Nat) => Int.ofNat 0) 0 e) x_1.fst ∧ (Int.ofNat 1).toNat ≤ x_1.snd) fun (x_1 : Cf × Nat) => nN [(1, .pf (∃ (x_2 : Nat × Int), x_2 = (ncN (Cf.mk (Int.ofNat 1) (Int.ofNat 1) (Int.ofNat 1) (Int.ofNat 1) (Int.ofNat 1) (Int.ofNat 1) (Int.ofNat 1) (Int.ofNat 0) (Int.ofNat 1) 1 x.fst 0 x.snd.fst (fun (e : Nat) => 0) x.snd.snd (fun (i e : Nat) => cO (fun (x : Nat) => Int.ofNat 0) 0 i e) (fun (i e : Nat) => cA (fun (x : Nat) => Int.ofNat 0) 0 i e) (fun (i e : Nat) => cB (fun (x : Nat) => Int.ofNat 0) 0 i e) (fun (e : Nat) => uP (fun (x : Nat) => Int.ofNat 0) 0 e) (fun (e : Nat) => uL (fun (x : Nat) => Int.ofNat 0) 0 e) fun (e : Nat) => uD (fun (x : Nat) => Int.ofNat 0) 0 e), lT (Cf.mk (Int.ofNat 1) (Int.ofNat 1) (Int.ofNat 1) (Int.ofNat 1) (Int.ofNat 1) (Int.ofNat 1) (Int.ofNat 1) (Int.ofNat 0) (Int.ofNat 1) 1 x.fst 0 x.snd.fst (fun (e : Nat) => 0) x.snd.snd (fun (i e : Nat) => cO (fun (x : Nat) => Int.ofNat 0) 0 i e) (fun (i e : Nat) => cA (fun (x : Nat) => Int.ofNat 0) 0 i e) (fun (i e : Nat) => cB (fun (x : Nat) => Int.ofNat 0) 0 i e) (fun (e : Nat) => uP (fun (x : Nat) => Int.ofNat 0) 0 e) (fun (e : Nat) => uL (fun (x : Nat) => Int.ofNat 0) 0 e) fun (e : Nat) => uD (fun (x : Nat) => Int.ofNat 0) 0 e))) ⟨_, rfl⟩)]
    (V.any (Nat × Int) (fun (q : Nat × Int) => q = (ncN (Cf.mk (Int.ofNat 1) (Int.ofNat 1) (Int.ofNat 1) (Int.ofNat 1) (Int.ofNat 1) (Int.ofNat 1) (Int.ofNat 1) (Int.ofNat 0) (Int.ofNat 1) 1 x.fst 0 x.snd.fst (fun (e : Nat) => 0) x.snd.snd (fun (i e : Nat) => cO (fun (x : Nat) => Int.ofNat 0) 0 i e) (fun (i e : Nat) => cA (fun (x : Nat) => Int.ofNat 0) 0 i e) (fun (i e : Nat) => cB (fun (x : Nat) => Int.ofNat 0) 0 i e) (fun (e : Nat) => uP (fun (x : Nat) => Int.ofNat 0) 0 e) (fun (e : Nat) => uL (fun (x : Nat) => Int.ofNat 0) 0 e) fun (e : Nat) => uD (fun (x : Nat) => Int.ofNat 0) 0 e), lT (Cf.mk (Int.ofNat 1) (Int.ofNat 1) (Int.ofNat 1) (Int.ofNat 1) (Int.ofNat 1) (Int.ofNat 1) (Int.ofNat 1) (Int.ofNat 0) (Int.ofNat 1) 1 x.fst 0 x.snd.fst (fun (e : Nat) => 0) x.snd.snd (fun (i e : Nat) => cO (fun (x : Nat) => Int.ofNat 0) 0 i e) (fun (i e : Nat) => cA (fun (x : Nat) => Int.ofNat 0) 0 i e) (fun (i e : Nat) => cB (fun (x : Nat) => Int.ofNat 0) 0 i e) (fun (e : Nat) => uP (fun (x : Nat) => Int.ofNat 0) 0 e) (fun (e : Nat) => uL (fun (x : Nat) => Int.ofNat 0) 0 e) fun (e : Nat) => uD (fun (x : Nat) => Int.ofNat 0) 0 e))) fun (x : Nat × Int) => V.need True
    (nN [(1, .neI 5 0)]
    (V.need (Int.ofNat 0 ≤ nLx a ∧ nLx a ≤ nLx a ∧ (↑16 : Int) * nLx a ≤ Int.ofNat 281474976710656 ∧ nLx a ≤ Int.ofNat 9223372036854775807)
    (V.need (Int.ofNat 0 ≤ nLx a ∧ nLx a ≤ nLx a ∧ (↑1 : Int) * nLx a ≤ Int.ofNat 281474976710656 ∧ nLx a ≤ Int.ofNat 9223372036854775807)
    (V.need (Int.ofNat 0 ≤ nLx a ∧ nLx a ≤ nLx a ∧ (↑1 : Int) * nLx a ≤ Int.ofNat 281474976710656 ∧ nLx a ≤ Int.ofNat 9223372036854775807)
    (V.need (I1 (XLx.mk (Int.ofNat 0) (Mm.mk (fun (e : Nat) => Int.ofNat 0) (Int.ofNat 0) (Int.ofNat 0) (Int.ofNat 0) (Int.ofNat 0) (Int.ofNat 0)) (fun (e : Nat) => false) fun (e : Nat) => false))
    (nN [(6, .eqI 0 0), (1, .eq 16 16), (1, .le 16 16), qF 16 (fun (e : Nat) => Int.ofNat 0), qE ((nLx a).toNat)]
    (V.need ((nLx a).toNat ≤ (nLx a).toNat)
    (nN [(1, .pf (∀ (e : Nat), e < (nLx a).toNat → false = false) (by intros; rfl)), qE ((nLx a).toNat)]
    (V.need ((nLx a).toNat ≤ (nLx a).toNat)
    (nN [(1, .pf (∀ (e : Nat), e < (nLx a).toNat → false = false) (by intros; rfl)), qE ((nLx a).toNat)]
    (V.need ((nLx a).toNat ≤ (nLx a).toNat)
    (nN [(1, .pf (∀ (e : Nat), e < (nLx a).toNat → false = false) (by intros; rfl))]
    (V.need (∀ (i : Nat), 0 = capB false ∨ capB false = 0)
    (V.need (∀ (i : Nat), capB false ≤ capB false ∧ capB false ≤ 0)
    (nN [(1, .pf (∀ (i e : Nat), e < capB false → false = false) (by intros; rfl)), (2, .pf (∀ (i e : Nat), e < capB false → Int.ofNat 0 = Int.ofNat 0) (by intros; rfl)), (1, .pf (∀ (i e : Nat), e < capB false → (↑i : Int) = (↑i : Int)) (by intros; rfl)), (1, .pf (∀ (i e : Nat), e < capB false → false = false) (by intros; rfl))]
    (V.any XLx I1 fun (x : XLx) => V.br (decide (x.i < (↑lg : Int)))
    (V.need (Int.ofNat 0 ≤ x.i ∧ x.i < (↑lg : Int))
    (V.need (0 < 1 ∧ 0 + x.i.toNat < lg)
    (V.need (0 < 1 ∧ 0 + x.i.toNat < lg)
    (nN [qE (g (0 + x.i.toNat)), qE (nLx a)]
    (V.need (nLx a ≤ Int.ofNat 9223372036854775807)
    (nN [qX (dr (g (0 + x.i.toNat)) (nLx a))]
    (V.any Int (fun (r : Int) => r = dr (g (0 + x.i.toNat)) (nLx a)) fun (x_2 : Int) => V.need (Int.ofNat 0 ≤ x_2 ∧ x_2 < (↑(nLx a).toNat : Int))
    (V.need (0 + x_2.toNat < (nLx a).toNat)
    (V.need (0 + x_2.toNat < (nLx a).toNat)
    (V.br (x.p (0 + x_2.toNat))
    (V.need (Int.ofNat 0 ≤ x_2 ∧ x_2 < (↑(nLx a).toNat : Int))
    (V.need (0 + x_2.toNat < (nLx a).toNat)
    (V.need (0 + x_2.toNat < (nLx a).toNat)
    (V.need (x.p (0 + x_2.toNat) = true)
    (V.need (Int.ofNat 0 ≤ x_2 ∧ x_2 < (↑(nLx a).toNat : Int))
    (V.need (0 + x_2.toNat < (nLx a).toNat)
    (V.need (0 + x_2.toNat < (nLx a).toNat)
    (V.need (x.p (0 + x_2.toNat) = true)
    (V.need (0 < capB (x.p (0 + x_2.toNat)))
    (V.need (0 < capB (x.p (0 + x_2.toNat)))
    (V.need (0 < capB (x.p (0 + x_2.toNat)))
    (V.need (0 < capB (x.p (0 + x_2.toNat)))
    (V.need (0 < capB (x.p (0 + x_2.toNat)))
    (nN [qE false, (16, .lt2 0 1 0 1)]
    (V.need (0 < capB (x.p (0 + x_2.toNat)))
    (V.need (0 < capB (x.p (0 + x_2.toNat)))
    (V.need (0 < capB (x.p (0 + x_2.toNat)))
    (nN [(1, .eqI 1 1), (1, .eqI 0 0), qE (IntKind.u64.wrap (IntKind.i64.wrap ((↑(0 + x_2.toNat) : Int) + Int.ofNat 1))), qE x.m.lk, qE x.m.lc, qE x.m.lo, qE x.m.ln, qE x.m.ct, (1, .eq 16 16), (1, .le 16 16), qF 16 x.m.g, qX (x.m.acc 16 (Int.ofNat 3) (Int.ofNat 1) (casV (x.m.hit 16 (Int.ofNat 1) (Int.ofNat 0)) (x.m.val 16 (Int.ofNat 1)) (IntKind.u64.wrap (IntKind.i64.wrap ((↑(0 + x_2.toNat) : Int) + Int.ofNat 1)))))]
    (V.any Mm (fun (m' : Mm) => m' = x.m.acc 16 (Int.ofNat 3) (Int.ofNat 1) (casV (x.m.hit 16 (Int.ofNat 1) (Int.ofNat 0)) (x.m.val 16 (Int.ofNat 1)) (IntKind.u64.wrap (IntKind.i64.wrap ((↑(0 + x_2.toNat) : Int) + Int.ofNat 1))))) fun (x_3 : Mm) => nN [qX (x.m.hit 16 (Int.ofNat 1) (Int.ofNat 0))]
    (V.any Bool (fun (v : Bool) => v = x.m.hit 16 (Int.ofNat 1) (Int.ofNat 0)) fun (x_4 : Bool) => V.br x_4
    (V.need (0 < capB (x.p (0 + x_2.toNat)))
    (V.need (0 < capB (x.p (0 + x_2.toNat)))
    (V.need (0 < capB (x.p (0 + x_2.toNat)))
    (V.need (0 < capB (x.p (0 + x_2.toNat)))
    (V.need (0 < capB (x.p (0 + x_2.toNat)))
    (V.need (0 < capB (x.p (0 + x_2.toNat)))
    (V.need (0 < capB (x.p (0 + x_2.toNat)))
    (V.need (0 < capB (x.p (0 + x_2.toNat)))
    (V.need (0 < capB (x.p (0 + x_2.toNat)))
    (V.need (0 < capB (x.p (0 + x_2.toNat)))
    (V.need (0 < capB (x.p (0 + x_2.toNat)))
    (V.need (Int.ofNat 0 ≤ x_2 ∧ x_2 < (↑(nLx a).toNat : Int))
    (V.need (0 + x_2.toNat < (nLx a).toNat)
    (V.need (0 + x_2.toNat < (nLx a).toNat)
    (V.need (x.p (0 + x_2.toNat) = true)
    (V.need (0 < capB (x.p (0 + x_2.toNat)))
    (V.need (0 < capB (x.p (0 + x_2.toNat)))
    (V.need (0 < capB (x.p (0 + x_2.toNat)))
    (V.need (0 < capB (x.p (0 + x_2.toNat)))
    (V.need (0 < capB (x.p (0 + x_2.toNat)))
    (V.need (0 < capB (x.p (0 + x_2.toNat)))
    (V.need (0 < capB (x.p (0 + x_2.toNat)))
    (V.need (Int.ofNat 0 ≤ x_2 ∧ x_2 < (↑(nLx a).toNat : Int))
    (V.need (0 + x_2.toNat < (nLx a).toNat)
    (V.need (0 + x_2.toNat < (nLx a).toNat)
    (nN [qE true]
    (V.need (Int.ofNat 0 ≤ x_2 ∧ x_2 < (↑(nLx a).toNat : Int))
    (V.need (0 + x_2.toNat < (nLx a).toNat)
    (V.need (0 + x_2.toNat < (nLx a).toNat)
    (V.need (Int.ofNat 0 ≤ x_2 ∧ x_2 < (↑(nLx a).toNat : Int))
    (V.need (0 + x_2.toNat < (nLx a).toNat)
    (V.need (0 + x_2.toNat < (nLx a).toNat)
    (V.need (Int.ofNat 0 ≤ x_2 ∧ x_2 < (↑(nLx a).toNat : Int))
    (V.need (0 + x_2.toNat < (nLx a).toNat)
    (V.need (0 + x_2.toNat < (nLx a).toNat)
    (V.need (I2 (XLx.mk x.i x_3 (fun (e : Nat) => if 0 = 0 ∧ e = 0 + x_2.toNat then false else x.p e) fun (e : Nat) => if 0 = 0 ∧ e = 0 + x_2.toNat then (if 0 + x_2.toNat = 0 + x_2.toNat ∧ 0 = 0 then Int.ofNat 1 else Int.ofNat 0) == Int.ofNat 1 else x.ho e) (XLy.mk (Int.ofNat 0) (Int.ofNat 0)))
    (nN [(2, .eqI 0 0)]
    (V.any XLy (I2 (XLx.mk x.i x_3 (fun (e : Nat) => if 0 = 0 ∧ e = 0 + x_2.toNat then false else x.p e) fun (e : Nat) => if 0 = 0 ∧ e = 0 + x_2.toNat then (if 0 + x_2.toNat = 0 + x_2.toNat ∧ 0 = 0 then Int.ofNat 1 else Int.ofNat 0) == Int.ofNat 1 else x.ho e)) fun (x_5 : XLy) => V.br (decide (x_5.k < nLx a))
    (V.need (Int.ofNat 0 ≤ x_5.k ∧ x_5.k < (↑(nLx a).toNat : Int))
    (V.need (0 < 1 ∧ 0 + x_5.k.toNat < (nLx a).toNat)
    (V.need (0 < 1 ∧ 0 + x_5.k.toNat < (nLx a).toNat)
    (V.br (if 0 = 0 ∧ 0 + x_5.k.toNat = 0 + x_2.toNat then (if 0 + x_2.toNat = 0 + x_2.toNat ∧ 0 = 0 then Int.ofNat 1 else Int.ofNat 0) == Int.ofNat 1 else x.ho (0 + x_5.k.toNat))
    (nN [(3, .lt2 0 1 0 1), (1, .eqI 1 1), (1, .le 1 1), (1, .pf (∀ (i : Nat), i < 1 → 1 ≤ 1) (by intros; exact Nat.le_refl _)), qE x_3.ct, (1, .le 1 1), (1, .pf (∀ (i : Nat), i < 1 → 16 ≤ 16) (by intros; exact Nat.le_refl _)), (1, .pf (∀ (i e : Nat), i < 1 ∧ e < 16 → x_3.g e = x_3.g e) (by intros; rfl)), qX (x_3.val 16 (Int.ofNat 1))]
    (V.any Int (fun (v : Int) => v = x_3.val 16 (Int.ofNat 1)) fun (x_6 : Int) => V.br (x_6 != IntKind.u64.wrap (IntKind.i64.wrap (x_5.k + Int.ofNat 1)))
    (V.bad 420)
    (V.need (I2 (XLx.mk x.i x_3 (fun (e : Nat) => if 0 = 0 ∧ e = 0 + x_2.toNat then false else x.p e) fun (e : Nat) => if 0 = 0 ∧ e = 0 + x_2.toNat then (if 0 + x_2.toNat = 0 + x_2.toNat ∧ 0 = 0 then Int.ofNat 1 else Int.ofNat 0) == Int.ofNat 1 else x.ho e) (XLy.mk (IntKind.i64.wrap (x_5.k + Int.ofNat 1)) (IntKind.i64.wrap (x_5.h + Int.ofNat 1))))
    (V.need ((nLx a - IntKind.i64.wrap (x_5.k + Int.ofNat 1)).toNat < (nLx a - x_5.k).toNat)
    (nN [qE (IntKind.i64.wrap (x_5.k + Int.ofNat 1)), qE (IntKind.i64.wrap (x_5.h + Int.ofNat 1))] V.ok)))))
    (V.need (I2 (XLx.mk x.i x_3 (fun (e : Nat) => if 0 = 0 ∧ e = 0 + x_2.toNat then false else x.p e) fun (e : Nat) => if 0 = 0 ∧ e = 0 + x_2.toNat then (if 0 + x_2.toNat = 0 + x_2.toNat ∧ 0 = 0 then Int.ofNat 1 else Int.ofNat 0) == Int.ofNat 1 else x.ho e) (XLy.mk (IntKind.i64.wrap (x_5.k + Int.ofNat 1)) x_5.h))
    (V.need ((nLx a - IntKind.i64.wrap (x_5.k + Int.ofNat 1)).toNat < (nLx a - x_5.k).toNat)
    (nN [qE (IntKind.i64.wrap (x_5.k + Int.ofNat 1)), qE x_5.h] V.ok)))))))
    (V.br (decide (x_5.h > Int.ofNat 1))
    (V.bad 420)
    (V.br (x_5.h == Int.ofNat 0)
    (nN [(3, .lt2 0 1 0 1), (1, .eqI 1 1), qE x_3.ct, (1, .le 1 1), (1, .le2 16 16 16 16), (1, .pf (∀ (i e : Nat), i = 0 ∧ e < 16 → x_3.g e = x_3.g e) (by intros; rfl)), qX (x_3.val 16 (Int.ofNat 1))]
    (V.any Int (fun (v : Int) => v = x_3.val 16 (Int.ofNat 1)) fun (x_6 : Int) => V.br (x_6 != Int.ofNat 0)
    (V.bad 420)
    (V.need (I1 (XLx.mk (IntKind.i64.wrap (x.i + Int.ofNat 1)) x_3 (fun (e : Nat) => if 0 = 0 ∧ e = 0 + x_2.toNat then false else x.p e) fun (e : Nat) => if 0 = 0 ∧ e = 0 + x_2.toNat then (if 0 + x_2.toNat = 0 + x_2.toNat ∧ 0 = 0 then Int.ofNat 1 else Int.ofNat 0) == Int.ofNat 1 else x.ho e))
    (V.need (((↑lg : Int) - IntKind.i64.wrap (x.i + Int.ofNat 1)).toNat < ((↑lg : Int) - x.i).toNat)
    (nN [qE (IntKind.i64.wrap (x.i + Int.ofNat 1)), qE x_3.lk, qE x_3.lc, qE x_3.lo, qE x_3.ln, qE x_3.ct, (1, .eq 16 16), (1, .le 16 16), qF 16 x_3.g, qE ((nLx a).toNat)]
    (V.need ((nLx a).toNat ≤ (nLx a).toNat)
    (V.need (∀ (e : Nat), e < (nLx a).toNat → (if 0 = 0 ∧ e = 0 + x_2.toNat then false else x.p e) = if 0 = 0 ∧ e = 0 + x_2.toNat then false else x.p e)
    (nN [(1, .pf (∀ (i e : Nat), (i = 0 ∧ e < (nLx a).toNat) ∧ (if 0 = 0 ∧ e = 0 + x_2.toNat then false else x.p e) = true → e = e) (by intros; rfl)), qE ((nLx a).toNat)]
    (V.need ((nLx a).toNat ≤ (nLx a).toNat)
    (V.need (∀ (e : Nat), e < (nLx a).toNat → (if 0 = 0 ∧ e = 0 + x_2.toNat then (if 0 + x_2.toNat = 0 + x_2.toNat ∧ 0 = 0 then Int.ofNat 1 else Int.ofNat 0) == Int.ofNat 1 else x.ho e) = if 0 = 0 ∧ e = 0 + x_2.toNat then (if 0 + x_2.toNat = 0 + x_2.toNat ∧ 0 = 0 then Int.ofNat 1 else Int.ofNat 0) == Int.ofNat 1 else x.ho e)
    (nN [qE ((nLx a).toNat)]
    (V.need ((nLx a).toNat ≤ (nLx a).toNat)
    (V.need (∀ (e : Nat), e < (nLx a).toNat → (if 0 = 0 ∧ e = 0 + x_2.toNat then false else false) = false)
    (V.need (∀ (i : Nat), capB (x.p i) = capB (if 0 = 0 ∧ i = 0 + x_2.toNat then false else x.p i) ∨ capB (if 0 = 0 ∧ i = 0 + x_2.toNat then false else x.p i) = 0)
    (V.need (∀ (i : Nat), capB (if 0 = 0 ∧ i = 0 + x_2.toNat then false else x.p i) ≤ capB (if 0 = 0 ∧ i = 0 + x_2.toNat then false else x.p i) ∧ capB (if 0 = 0 ∧ i = 0 + x_2.toNat then false else x.p i) ≤ capB (x.p i))
    (V.need (∀ (i e : Nat), e < capB (if 0 = 0 ∧ i = 0 + x_2.toNat then false else x.p i) → (if i = 0 + x_2.toNat ∧ e = 0 then true else false) = false)
    (V.need (∀ (i e : Nat), e < capB (if 0 = 0 ∧ i = 0 + x_2.toNat then false else x.p i) → (if i = 0 + x_2.toNat ∧ e = 0 then Int.ofNat 1 else Int.ofNat 0) = Int.ofNat 0)
    (V.need (∀ (i e : Nat), e < capB (if 0 = 0 ∧ i = 0 + x_2.toNat then false else x.p i) → (if i = 0 + x_2.toNat ∧ e = 0 then Int.ofNat 0 else Int.ofNat 0) = Int.ofNat 0)
    (nN [(1, .pf (∀ (i e : Nat), e < capB (if 0 = 0 ∧ i = 0 + x_2.toNat then false else x.p i) → (↑i : Int) = (↑i : Int)) (by intros; rfl)), (1, .pf (∀ (i e : Nat), e < capB (if 0 = 0 ∧ i = 0 + x_2.toNat then false else x.p i) → false = false) (by intros; rfl))] V.ok)))))))))))))))))))
    (V.need (I1 (XLx.mk (IntKind.i64.wrap (x.i + Int.ofNat 1)) x_3 (fun (e : Nat) => if 0 = 0 ∧ e = 0 + x_2.toNat then false else x.p e) fun (e : Nat) => if 0 = 0 ∧ e = 0 + x_2.toNat then (if 0 + x_2.toNat = 0 + x_2.toNat ∧ 0 = 0 then Int.ofNat 1 else Int.ofNat 0) == Int.ofNat 1 else x.ho e))
    (V.need (((↑lg : Int) - IntKind.i64.wrap (x.i + Int.ofNat 1)).toNat < ((↑lg : Int) - x.i).toNat)
    (nN [qE (IntKind.i64.wrap (x.i + Int.ofNat 1)), qE x_3.lk, qE x_3.lc, qE x_3.lo, qE x_3.ln, qE x_3.ct, (1, .eq 16 16), (1, .le 16 16), qF 16 x_3.g, qE ((nLx a).toNat)]
    (V.need ((nLx a).toNat ≤ (nLx a).toNat)
    (V.need (∀ (e : Nat), e < (nLx a).toNat → (if 0 = 0 ∧ e = 0 + x_2.toNat then false else x.p e) = if 0 = 0 ∧ e = 0 + x_2.toNat then false else x.p e)
    (nN [(1, .pf (∀ (i e : Nat), (i = 0 ∧ e < (nLx a).toNat) ∧ (if 0 = 0 ∧ e = 0 + x_2.toNat then false else x.p e) = true → e = e) (by intros; rfl)), qE ((nLx a).toNat)]
    (V.need ((nLx a).toNat ≤ (nLx a).toNat)
    (V.need (∀ (e : Nat), e < (nLx a).toNat → (if 0 = 0 ∧ e = 0 + x_2.toNat then (if 0 + x_2.toNat = 0 + x_2.toNat ∧ 0 = 0 then Int.ofNat 1 else Int.ofNat 0) == Int.ofNat 1 else x.ho e) = if 0 = 0 ∧ e = 0 + x_2.toNat then (if 0 + x_2.toNat = 0 + x_2.toNat ∧ 0 = 0 then Int.ofNat 1 else Int.ofNat 0) == Int.ofNat 1 else x.ho e)
    (nN [qE ((nLx a).toNat)]
    (V.need ((nLx a).toNat ≤ (nLx a).toNat)
    (V.need (∀ (e : Nat), e < (nLx a).toNat → (if 0 = 0 ∧ e = 0 + x_2.toNat then false else false) = false)
    (V.need (∀ (i : Nat), capB (x.p i) = capB (if 0 = 0 ∧ i = 0 + x_2.toNat then false else x.p i) ∨ capB (if 0 = 0 ∧ i = 0 + x_2.toNat then false else x.p i) = 0)
    (V.need (∀ (i : Nat), capB (if 0 = 0 ∧ i = 0 + x_2.toNat then false else x.p i) ≤ capB (if 0 = 0 ∧ i = 0 + x_2.toNat then false else x.p i) ∧ capB (if 0 = 0 ∧ i = 0 + x_2.toNat then false else x.p i) ≤ capB (x.p i))
    (V.need (∀ (i e : Nat), e < capB (if 0 = 0 ∧ i = 0 + x_2.toNat then false else x.p i) → (if i = 0 + x_2.toNat ∧ e = 0 then true else false) = false)
    (V.need (∀ (i e : Nat), e < capB (if 0 = 0 ∧ i = 0 + x_2.toNat then false else x.p i) → (if i = 0 + x_2.toNat ∧ e = 0 then Int.ofNat 1 else Int.ofNat 0) = Int.ofNat 0)
    (V.need (∀ (i e : Nat), e < capB (if 0 = 0 ∧ i = 0 + x_2.toNat then false else x.p i) → (if i = 0 + x_2.toNat ∧ e = 0 then Int.ofNat 0 else Int.ofNat 0) = Int.ofNat 0)
    (nN [(1, .pf (∀ (i e : Nat), e < capB (if 0 = 0 ∧ i = 0 + x_2.toNat then false else x.p i) → (↑i : Int) = (↑i : Int)) (by intros; rfl)), (1, .pf (∀ (i e : Nat), e < capB (if 0 = 0 ∧ i = 0 + x_2.toNat then false else x.p i) → false = false) (by intros; rfl))] V.ok)))))))))))))))))))))))))))))))))))))))))))))))))))))))))
    (V.need (0 < capB (x.p (0 + x_2.toNat)))
    (V.need (0 < capB (x.p (0 + x_2.toNat)))
    (V.need (0 < capB (x.p (0 + x_2.toNat)))
    (nN [qE false]
    (V.need (I2 (XLx.mk x.i x_3 x.p fun (e : Nat) => x.ho e) (XLy.mk (Int.ofNat 0) (Int.ofNat 0)))
    (nN [(2, .eqI 0 0)]
    (V.any XLy (I2 (XLx.mk x.i x_3 x.p fun (e : Nat) => x.ho e)) fun (x_5 : XLy) => V.br (decide (x_5.k < nLx a))
    (V.need (Int.ofNat 0 ≤ x_5.k ∧ x_5.k < (↑(nLx a).toNat : Int))
    (V.need (0 < 1 ∧ 0 + x_5.k.toNat < (nLx a).toNat)
    (V.need (0 < 1 ∧ 0 + x_5.k.toNat < (nLx a).toNat)
    (V.br (x.ho (0 + x_5.k.toNat))
    (nN [(3, .lt2 0 1 0 1), (1, .eqI 1 1), (1, .le 1 1), (1, .pf (∀ (i : Nat), i < 1 → 1 ≤ 1) (by intros; exact Nat.le_refl _)), qE x_3.ct, (1, .le 1 1), (1, .pf (∀ (i : Nat), i < 1 → 16 ≤ 16) (by intros; exact Nat.le_refl _)), (1, .pf (∀ (i e : Nat), i < 1 ∧ e < 16 → x_3.g e = x_3.g e) (by intros; rfl)), qX (x_3.val 16 (Int.ofNat 1))]
    (V.any Int (fun (v : Int) => v = x_3.val 16 (Int.ofNat 1)) fun (x_6 : Int) => V.br (x_6 != IntKind.u64.wrap (IntKind.i64.wrap (x_5.k + Int.ofNat 1)))
    (V.bad 420)
    (V.need (I2 (XLx.mk x.i x_3 x.p fun (e : Nat) => x.ho e) (XLy.mk (IntKind.i64.wrap (x_5.k + Int.ofNat 1)) (IntKind.i64.wrap (x_5.h + Int.ofNat 1))))
    (V.need ((nLx a - IntKind.i64.wrap (x_5.k + Int.ofNat 1)).toNat < (nLx a - x_5.k).toNat)
    (nN [qE (IntKind.i64.wrap (x_5.k + Int.ofNat 1)), qE (IntKind.i64.wrap (x_5.h + Int.ofNat 1))] V.ok)))))
    (V.need (I2 (XLx.mk x.i x_3 x.p fun (e : Nat) => x.ho e) (XLy.mk (IntKind.i64.wrap (x_5.k + Int.ofNat 1)) x_5.h))
    (V.need ((nLx a - IntKind.i64.wrap (x_5.k + Int.ofNat 1)).toNat < (nLx a - x_5.k).toNat)
    (nN [qE (IntKind.i64.wrap (x_5.k + Int.ofNat 1)), qE x_5.h] V.ok)))))))
    (V.br (decide (x_5.h > Int.ofNat 1))
    (V.bad 420)
    (V.br (x_5.h == Int.ofNat 0)
    (nN [(3, .lt2 0 1 0 1), (1, .eqI 1 1), qE x_3.ct, (1, .le 1 1), (1, .le2 16 16 16 16), (1, .pf (∀ (i e : Nat), i = 0 ∧ e < 16 → x_3.g e = x_3.g e) (by intros; rfl)), qX (x_3.val 16 (Int.ofNat 1))]
    (V.any Int (fun (v : Int) => v = x_3.val 16 (Int.ofNat 1)) fun (x_6 : Int) => V.br (x_6 != Int.ofNat 0)
    (V.bad 420)
    (V.need (I1 (XLx.mk (IntKind.i64.wrap (x.i + Int.ofNat 1)) x_3 x.p fun (e : Nat) => x.ho e))
    (V.need (((↑lg : Int) - IntKind.i64.wrap (x.i + Int.ofNat 1)).toNat < ((↑lg : Int) - x.i).toNat)
    (nN [qE (IntKind.i64.wrap (x.i + Int.ofNat 1)), qE x_3.lk, qE x_3.lc, qE x_3.lo, qE x_3.ln, qE x_3.ct, (1, .eq 16 16), (1, .le 16 16), qF 16 x_3.g, qE ((nLx a).toNat)]
    (V.need ((nLx a).toNat ≤ (nLx a).toNat)
    (nN [(1, .pf (∀ (e : Nat), e < (nLx a).toNat → x.p e = x.p e) (by intros; rfl)), (1, .pf (∀ (i e : Nat), (i = 0 ∧ e < (nLx a).toNat) ∧ x.p e = true → e = e) (by intros; rfl)), qE ((nLx a).toNat)]
    (V.need ((nLx a).toNat ≤ (nLx a).toNat)
    (nN [(1, .pf (∀ (e : Nat), e < (nLx a).toNat → x.ho e = x.ho e) (by intros; rfl)), qE ((nLx a).toNat)]
    (V.need ((nLx a).toNat ≤ (nLx a).toNat)
    (nN [(1, .pf (∀ (e : Nat), e < (nLx a).toNat → false = false) (by intros; rfl))]
    (V.need (∀ (i : Nat), capB (x.p i) = capB (x.p i) ∨ capB (x.p i) = 0)
    (V.need (∀ (i : Nat), capB (x.p i) ≤ capB (x.p i) ∧ capB (x.p i) ≤ capB (x.p i))
    (nN [(1, .pf (∀ (i e : Nat), e < capB (x.p i) → false = false) (by intros; rfl)), (2, .pf (∀ (i e : Nat), e < capB (x.p i) → Int.ofNat 0 = Int.ofNat 0) (by intros; rfl)), (1, .pf (∀ (i e : Nat), e < capB (x.p i) → (↑i : Int) = (↑i : Int)) (by intros; rfl)), (1, .pf (∀ (i e : Nat), e < capB (x.p i) → false = false) (by intros; rfl))] V.ok))))))))))))))
    (V.need (I1 (XLx.mk (IntKind.i64.wrap (x.i + Int.ofNat 1)) x_3 x.p fun (e : Nat) => x.ho e))
    (V.need (((↑lg : Int) - IntKind.i64.wrap (x.i + Int.ofNat 1)).toNat < ((↑lg : Int) - x.i).toNat)
    (nN [qE (IntKind.i64.wrap (x.i + Int.ofNat 1)), qE x_3.lk, qE x_3.lc, qE x_3.lo, qE x_3.ln, qE x_3.ct, (1, .eq 16 16), (1, .le 16 16), qF 16 x_3.g, qE ((nLx a).toNat)]
    (V.need ((nLx a).toNat ≤ (nLx a).toNat)
    (nN [(1, .pf (∀ (e : Nat), e < (nLx a).toNat → x.p e = x.p e) (by intros; rfl)), (1, .pf (∀ (i e : Nat), (i = 0 ∧ e < (nLx a).toNat) ∧ x.p e = true → e = e) (by intros; rfl)), qE ((nLx a).toNat)]
    (V.need ((nLx a).toNat ≤ (nLx a).toNat)
    (nN [(1, .pf (∀ (e : Nat), e < (nLx a).toNat → x.ho e = x.ho e) (by intros; rfl)), qE ((nLx a).toNat)]
    (V.need ((nLx a).toNat ≤ (nLx a).toNat)
    (nN [(1, .pf (∀ (e : Nat), e < (nLx a).toNat → false = false) (by intros; rfl))]
    (V.need (∀ (i : Nat), capB (x.p i) = capB (x.p i) ∨ capB (x.p i) = 0)
    (V.need (∀ (i : Nat), capB (x.p i) ≤ capB (x.p i) ∧ capB (x.p i) ≤ capB (x.p i))
    (nN [(1, .pf (∀ (i e : Nat), e < capB (x.p i) → false = false) (by intros; rfl)), (2, .pf (∀ (i e : Nat), e < capB (x.p i) → Int.ofNat 0 = Int.ofNat 0) (by intros; rfl)), (1, .pf (∀ (i e : Nat), e < capB (x.p i) → (↑i : Int) = (↑i : Int)) (by intros; rfl)), (1, .pf (∀ (i e : Nat), e < capB (x.p i) → false = false) (by intros; rfl))] V.ok)))))))))))))))))))))))))))))))))))))))))
    (V.need (Int.ofNat 0 ≤ x_2 ∧ x_2 < (↑(nLx a).toNat : Int))
    (V.need (0 + x_2.toNat < (nLx a).toNat)
    (V.need (0 + x_2.toNat < (nLx a).toNat)
    (V.br (x.ho (0 + x_2.toNat))
    (V.need (Int.ofNat 0 ≤ x_2 ∧ x_2 < (↑(nLx a).toNat : Int))
    (V.need (0 + x_2.toNat < (nLx a).toNat)
    (V.need (0 + x_2.toNat < (nLx a).toNat)
    (V.need (Int.ofNat 0 ≤ x_2 ∧ x_2 < (↑(nLx a).toNat : Int))
    (V.need (0 + x_2.toNat < (nLx a).toNat)
    (V.need (0 + x_2.toNat < (nLx a).toNat)
    (V.need (Int.ofNat 0 ≤ x_2 ∧ x_2 < (↑(nLx a).toNat : Int))
    (V.need (0 + x_2.toNat < (nLx a).toNat)
    (V.need (0 + x_2.toNat < (nLx a).toNat)
    (V.need ((true && (0 + x_2.toNat).beq (0 + x_2.toNat)) = true)
    (V.need (Int.ofNat 0 ≤ x_2 ∧ x_2 < (↑(nLx a).toNat : Int))
    (V.need (0 + x_2.toNat < (nLx a).toNat)
    (V.need (0 + x_2.toNat < (nLx a).toNat)
    (V.need ((true && (0 + x_2.toNat).beq (0 + x_2.toNat)) = true)
    (nN [(16, .lt2 0 1 0 1), (1, .eqI 1 1), (1, .eqI 0 0), qE x.m.lk, qE x.m.lc, qE x.m.lo, qE x.m.ln, qE x.m.ct, (1, .eq 16 16), (1, .le 16 16), qF 16 x.m.g, qX (x.m.acc 16 (Int.ofNat 2) (Int.ofNat 1) (Int.ofNat 0))]
    (V.any Mm (fun (m' : Mm) => m' = x.m.acc 16 (Int.ofNat 2) (Int.ofNat 1) (Int.ofNat 0)) fun (x_3 : Mm) => V.need (Int.ofNat 0 ≤ x_2 ∧ x_2 < (↑(nLx a).toNat : Int))
    (V.need (0 + x_2.toNat < (nLx a).toNat)
    (V.need (0 + x_2.toNat < (nLx a).toNat)
    (V.need ((true && (0 + x_2.toNat).beq (0 + x_2.toNat)) = true)
    (nN [(6, .lt2 0 1 0 1)]
    (V.need (Int.ofNat 0 ≤ x_2 ∧ x_2 < (↑(nLx a).toNat : Int))
    (V.need (0 + x_2.toNat < (nLx a).toNat)
    (V.need (0 + x_2.toNat < (nLx a).toNat)
    (V.need ((!if 0 = 0 ∧ 0 + x_2.toNat = 0 + x_2.toNat then true else false) = false)
    (V.need (Int.ofNat 0 ≤ x_2 ∧ x_2 < (↑(nLx a).toNat : Int))
    (V.need (0 + x_2.toNat < (nLx a).toNat)
    (V.need (0 + x_2.toNat < (nLx a).toNat)
    (V.need (Int.ofNat 0 ≤ x_2 ∧ x_2 < (↑(nLx a).toNat : Int))
    (V.need (0 + x_2.toNat < (nLx a).toNat)
    (V.need (0 + x_2.toNat < (nLx a).toNat)
    (V.need (Int.ofNat 0 ≤ x_2 ∧ x_2 < (↑(nLx a).toNat : Int))
    (V.need (0 + x_2.toNat < (nLx a).toNat)
    (V.need (0 + x_2.toNat < (nLx a).toNat)
    (V.need (I2 (XLx.mk x.i x_3 (fun (e : Nat) => if e = 0 + x_2.toNat then false else x.p e) fun (e : Nat) => if 0 = 0 ∧ e = 0 + x_2.toNat then false else x.ho e) (XLy.mk (Int.ofNat 0) (Int.ofNat 0)))
    (nN [(2, .eqI 0 0)]
    (V.any XLy (I2 (XLx.mk x.i x_3 (fun (e : Nat) => if e = 0 + x_2.toNat then false else x.p e) fun (e : Nat) => if 0 = 0 ∧ e = 0 + x_2.toNat then false else x.ho e)) fun (x_4 : XLy) => V.br (decide (x_4.k < nLx a))
    (V.need (Int.ofNat 0 ≤ x_4.k ∧ x_4.k < (↑(nLx a).toNat : Int))
    (V.need (0 < 1 ∧ 0 + x_4.k.toNat < (nLx a).toNat)
    (V.need (0 < 1 ∧ 0 + x_4.k.toNat < (nLx a).toNat)
    (V.br (if 0 = 0 ∧ 0 + x_4.k.toNat = 0 + x_2.toNat then false else x.ho (0 + x_4.k.toNat))
    (nN [(3, .lt2 0 1 0 1), (1, .eqI 1 1), (1, .le 1 1), (1, .pf (∀ (i : Nat), i < 1 → 1 ≤ 1) (by intros; exact Nat.le_refl _)), qE x_3.ct, (1, .le 1 1), (1, .pf (∀ (i : Nat), i < 1 → 16 ≤ 16) (by intros; exact Nat.le_refl _)), (1, .pf (∀ (i e : Nat), i < 1 ∧ e < 16 → x_3.g e = x_3.g e) (by intros; rfl)), qX (x_3.val 16 (Int.ofNat 1))]
    (V.any Int (fun (v : Int) => v = x_3.val 16 (Int.ofNat 1)) fun (x_5 : Int) => V.br (x_5 != IntKind.u64.wrap (IntKind.i64.wrap (x_4.k + Int.ofNat 1)))
    (V.bad 420)
    (V.need (I2 (XLx.mk x.i x_3 (fun (e : Nat) => if e = 0 + x_2.toNat then false else x.p e) fun (e : Nat) => if 0 = 0 ∧ e = 0 + x_2.toNat then false else x.ho e) (XLy.mk (IntKind.i64.wrap (x_4.k + Int.ofNat 1)) (IntKind.i64.wrap (x_4.h + Int.ofNat 1))))
    (V.need ((nLx a - IntKind.i64.wrap (x_4.k + Int.ofNat 1)).toNat < (nLx a - x_4.k).toNat)
    (nN [qE (IntKind.i64.wrap (x_4.k + Int.ofNat 1)), qE (IntKind.i64.wrap (x_4.h + Int.ofNat 1))] V.ok)))))
    (V.need (I2 (XLx.mk x.i x_3 (fun (e : Nat) => if e = 0 + x_2.toNat then false else x.p e) fun (e : Nat) => if 0 = 0 ∧ e = 0 + x_2.toNat then false else x.ho e) (XLy.mk (IntKind.i64.wrap (x_4.k + Int.ofNat 1)) x_4.h))
    (V.need ((nLx a - IntKind.i64.wrap (x_4.k + Int.ofNat 1)).toNat < (nLx a - x_4.k).toNat)
    (nN [qE (IntKind.i64.wrap (x_4.k + Int.ofNat 1)), qE x_4.h] V.ok)))))))
    (V.br (decide (x_4.h > Int.ofNat 1))
    (V.bad 420)
    (V.br (x_4.h == Int.ofNat 0)
    (nN [(3, .lt2 0 1 0 1), (1, .eqI 1 1), qE x_3.ct, (1, .le 1 1), (1, .le2 16 16 16 16), (1, .pf (∀ (i e : Nat), i = 0 ∧ e < 16 → x_3.g e = x_3.g e) (by intros; rfl)), qX (x_3.val 16 (Int.ofNat 1))]
    (V.any Int (fun (v : Int) => v = x_3.val 16 (Int.ofNat 1)) fun (x_5 : Int) => V.br (x_5 != Int.ofNat 0)
    (V.bad 420)
    (V.need (I1 (XLx.mk (IntKind.i64.wrap (x.i + Int.ofNat 1)) x_3 (fun (e : Nat) => if e = 0 + x_2.toNat then false else x.p e) fun (e : Nat) => if 0 = 0 ∧ e = 0 + x_2.toNat then false else x.ho e))
    (V.need (((↑lg : Int) - IntKind.i64.wrap (x.i + Int.ofNat 1)).toNat < ((↑lg : Int) - x.i).toNat)
    (nN [qE (IntKind.i64.wrap (x.i + Int.ofNat 1)), qE x_3.lk, qE x_3.lc, qE x_3.lo, qE x_3.ln, qE x_3.ct, (1, .eq 16 16), (1, .le 16 16), qF 16 x_3.g, qE ((nLx a).toNat)]
    (V.need ((nLx a).toNat ≤ (nLx a).toNat)
    (V.need (0 = 0 ∧ 0 + x_2.toNat < (nLx a).toNat → (if 0 + x_2.toNat = 0 + x_2.toNat then false else x.p (0 + x_2.toNat)) = false)
    (V.need (∀ (i e : Nat), (i = 0 ∧ e < (nLx a).toNat) ∧ ¬(i = 0 ∧ e = 0 + x_2.toNat) → ¬(i = 0 ∧ e = 0 + x_2.toNat))
    (V.need (∀ (i e : Nat), (i = 0 ∧ e < (nLx a).toNat) ∧ ¬(i = 0 ∧ e = 0 + x_2.toNat) → x.p e = if e = 0 + x_2.toNat then false else x.p e)
    (nN [(1, .pf (∀ (i e : Nat), ((i = 0 ∧ e < (nLx a).toNat) ∧ ¬(i = 0 ∧ e = 0 + x_2.toNat)) ∧ (if e = 0 + x_2.toNat then false else x.p e) = true → e = e) (by intros; rfl)), qE ((nLx a).toNat)]
    (V.need ((nLx a).toNat ≤ (nLx a).toNat)
    (V.need (∀ (e : Nat), e < (nLx a).toNat → (if 0 = 0 ∧ e = 0 + x_2.toNat then false else x.ho e) = if 0 = 0 ∧ e = 0 + x_2.toNat then false else x.ho e)
    (nN [qE ((nLx a).toNat)]
    (V.need ((nLx a).toNat ≤ (nLx a).toNat)
    (V.need (∀ (e : Nat), e < (nLx a).toNat → (if 0 = 0 ∧ e = 0 + x_2.toNat then false else if 0 = 0 ∧ e = 0 + x_2.toNat then true else false) = false)
    (V.need (∀ (i : Nat), capB (x.p i) = capB (if i = 0 + x_2.toNat then false else x.p i) ∨ capB (if i = 0 + x_2.toNat then false else x.p i) = 0)
    (V.need (∀ (i : Nat), capB (if i = 0 + x_2.toNat then false else x.p i) ≤ capB (if i = 0 + x_2.toNat then false else x.p i) ∧ capB (if i = 0 + x_2.toNat then false else x.p i) ≤ capB (x.p i))
    (nN [(1, .pf (∀ (i e : Nat), e < capB (if i = 0 + x_2.toNat then false else x.p i) → false = false) (by intros; rfl)), (2, .pf (∀ (i e : Nat), e < capB (if i = 0 + x_2.toNat then false else x.p i) → Int.ofNat 0 = Int.ofNat 0) (by intros; rfl)), (1, .pf (∀ (i e : Nat), e < capB (if i = 0 + x_2.toNat then false else x.p i) → (↑i : Int) = (↑i : Int)) (by intros; rfl)), (1, .pf (∀ (i e : Nat), e < capB (if i = 0 + x_2.toNat then false else x.p i) → false = false) (by intros; rfl))] V.ok))))))))))))))))))
    (V.need (I1 (XLx.mk (IntKind.i64.wrap (x.i + Int.ofNat 1)) x_3 (fun (e : Nat) => if e = 0 + x_2.toNat then false else x.p e) fun (e : Nat) => if 0 = 0 ∧ e = 0 + x_2.toNat then false else x.ho e))
    (V.need (((↑lg : Int) - IntKind.i64.wrap (x.i + Int.ofNat 1)).toNat < ((↑lg : Int) - x.i).toNat)
    (nN [qE (IntKind.i64.wrap (x.i + Int.ofNat 1)), qE x_3.lk, qE x_3.lc, qE x_3.lo, qE x_3.ln, qE x_3.ct, (1, .eq 16 16), (1, .le 16 16), qF 16 x_3.g, qE ((nLx a).toNat)]
    (V.need ((nLx a).toNat ≤ (nLx a).toNat)
    (V.need (0 = 0 ∧ 0 + x_2.toNat < (nLx a).toNat → (if 0 + x_2.toNat = 0 + x_2.toNat then false else x.p (0 + x_2.toNat)) = false)
    (V.need (∀ (i e : Nat), (i = 0 ∧ e < (nLx a).toNat) ∧ ¬(i = 0 ∧ e = 0 + x_2.toNat) → ¬(i = 0 ∧ e = 0 + x_2.toNat))
    (V.need (∀ (i e : Nat), (i = 0 ∧ e < (nLx a).toNat) ∧ ¬(i = 0 ∧ e = 0 + x_2.toNat) → x.p e = if e = 0 + x_2.toNat then false else x.p e)
    (nN [(1, .pf (∀ (i e : Nat), ((i = 0 ∧ e < (nLx a).toNat) ∧ ¬(i = 0 ∧ e = 0 + x_2.toNat)) ∧ (if e = 0 + x_2.toNat then false else x.p e) = true → e = e) (by intros; rfl)), qE ((nLx a).toNat)]
    (V.need ((nLx a).toNat ≤ (nLx a).toNat)
    (V.need (∀ (e : Nat), e < (nLx a).toNat → (if 0 = 0 ∧ e = 0 + x_2.toNat then false else x.ho e) = if 0 = 0 ∧ e = 0 + x_2.toNat then false else x.ho e)
    (nN [qE ((nLx a).toNat)]
    (V.need ((nLx a).toNat ≤ (nLx a).toNat)
    (V.need (∀ (e : Nat), e < (nLx a).toNat → (if 0 = 0 ∧ e = 0 + x_2.toNat then false else if 0 = 0 ∧ e = 0 + x_2.toNat then true else false) = false)
    (V.need (∀ (i : Nat), capB (x.p i) = capB (if i = 0 + x_2.toNat then false else x.p i) ∨ capB (if i = 0 + x_2.toNat then false else x.p i) = 0)
    (V.need (∀ (i : Nat), capB (if i = 0 + x_2.toNat then false else x.p i) ≤ capB (if i = 0 + x_2.toNat then false else x.p i) ∧ capB (if i = 0 + x_2.toNat then false else x.p i) ≤ capB (x.p i))
    (nN [(1, .pf (∀ (i e : Nat), e < capB (if i = 0 + x_2.toNat then false else x.p i) → false = false) (by intros; rfl)), (2, .pf (∀ (i e : Nat), e < capB (if i = 0 + x_2.toNat then false else x.p i) → Int.ofNat 0 = Int.ofNat 0) (by intros; rfl)), (1, .pf (∀ (i e : Nat), e < capB (if i = 0 + x_2.toNat then false else x.p i) → (↑i : Int) = (↑i : Int)) (by intros; rfl)), (1, .pf (∀ (i e : Nat), e < capB (if i = 0 + x_2.toNat then false else x.p i) → false = false) (by intros; rfl))] V.ok))))))))))))))))))))))))))))))))))))))))))))))))))))))
    (nN [(1, .neI 2 0)]
    (V.br (x_2.tmod (Int.ofNat 2) == Int.ofNat 0)
    (V.need (Int.ofNat 0 ≤ x_2 ∧ x_2 < (↑(nLx a).toNat : Int))
    (V.need (0 + x_2.toNat < (nLx a).toNat)
    (V.need (0 + x_2.toNat < (nLx a).toNat)
    (V.need ((1 ≤ 1 ∧ 1 ≤ 1 ∧ 1 ≤ 1 ∧ 1 ≤ [SC.iv IntKind.i64 x_2].length ∧ 1 ≤ 1 ∧ True) ∧ ∀ (i e : Nat), i = 0 ∧ e < (nLx a).toNat → ¬(i = 0 ∧ e = 0 + x_2.toNat) → e ≠ 0 + x_2.toNat)
    (V.need (Int.ofNat 0 ≤ x_2 ∧ x_2 < (↑(nLx a).toNat : Int))
    (V.need (0 + x_2.toNat < (nLx a).toNat)
    (V.need (0 + x_2.toNat < (nLx a).toNat)
    (V.need ((if 0 = 0 ∧ 0 + x_2.toNat = 0 + x_2.toNat then true else x.p (0 + x_2.toNat)) = true)
    (V.need (Int.ofNat 0 ≤ x_2 ∧ x_2 < (↑(nLx a).toNat : Int))
    (V.need (0 + x_2.toNat < (nLx a).toNat)
    (V.need (0 + x_2.toNat < (nLx a).toNat)
    (V.need ((if 0 = 0 ∧ 0 + x_2.toNat = 0 + x_2.toNat then true else x.p (0 + x_2.toNat)) = true)
    (V.need (0 < if 0 + x_2.toNat = 0 + x_2.toNat then 1 else capB (x.p (0 + x_2.toNat)))
    (V.need (0 < if 0 + x_2.toNat = 0 + x_2.toNat then 1 else capB (x.p (0 + x_2.toNat)))
    (V.need (0 < if 0 + x_2.toNat = 0 + x_2.toNat then 1 else capB (x.p (0 + x_2.toNat)))
    (V.need (0 < if 0 + x_2.toNat = 0 + x_2.toNat then 1 else capB (x.p (0 + x_2.toNat)))
    (V.need (0 < if 0 + x_2.toNat = 0 + x_2.toNat then 1 else capB (x.p (0 + x_2.toNat)))
    (V.need ((if 0 + x_2.toNat = 0 + x_2.toNat then boolAt [SC.kb false] 0 else false) = false)
    (nN [(16, .lt2 0 1 0 1)]
    (V.need (0 < if 0 + x_2.toNat = 0 + x_2.toNat then 1 else capB (x.p (0 + x_2.toNat)))
    (V.need (0 < if 0 + x_2.toNat = 0 + x_2.toNat then 1 else capB (x.p (0 + x_2.toNat)))
    (V.need (0 < if 0 + x_2.toNat = 0 + x_2.toNat then 1 else capB (x.p (0 + x_2.toNat)))
    (nN [(1, .eqI 1 1), (1, .eqI 0 0)]
    (V.need (IntKind.u64.wrap (IntKind.i64.wrap ((if 0 + x_2.toNat = 0 + x_2.toNat then numAt [SC.iv IntKind.i64 x_2] 0 else (↑(0 + x_2.toNat) : Int)) + Int.ofNat 1)) = IntKind.u64.wrap (IntKind.i64.wrap ((if 0 + x_2.toNat = 0 + x_2.toNat then numAt [SC.iv IntKind.i64 x_2] 0 else (↑(0 + x_2.toNat) : Int)) + Int.ofNat 1)))
    (nN [qE x.m.lk, qE x.m.lc, qE x.m.lo, qE x.m.ln, qE x.m.ct, (1, .eq 16 16), (1, .le 16 16), qF 16 x.m.g, qX (x.m.acc 16 (Int.ofNat 3) (Int.ofNat 1) (casV (x.m.hit 16 (Int.ofNat 1) (Int.ofNat 0)) (x.m.val 16 (Int.ofNat 1)) (IntKind.u64.wrap (IntKind.i64.wrap ((if 0 + x_2.toNat = 0 + x_2.toNat then numAt [SC.iv IntKind.i64 x_2] 0 else (↑(0 + x_2.toNat) : Int)) + Int.ofNat 1)))))]
    (V.any Mm (fun (m' : Mm) => m' = x.m.acc 16 (Int.ofNat 3) (Int.ofNat 1) (casV (x.m.hit 16 (Int.ofNat 1) (Int.ofNat 0)) (x.m.val 16 (Int.ofNat 1)) (IntKind.u64.wrap (IntKind.i64.wrap ((if 0 + x_2.toNat = 0 + x_2.toNat then numAt [SC.iv IntKind.i64 x_2] 0 else (↑(0 + x_2.toNat) : Int)) + Int.ofNat 1))))) fun (x_3 : Mm) => nN [qX (x.m.hit 16 (Int.ofNat 1) (Int.ofNat 0))]
    (V.any Bool (fun (v : Bool) => v = x.m.hit 16 (Int.ofNat 1) (Int.ofNat 0)) fun (x_4 : Bool) => V.br x_4
    (V.need (0 < if 0 + x_2.toNat = 0 + x_2.toNat then 1 else capB (x.p (0 + x_2.toNat)))
    (V.need (0 < if 0 + x_2.toNat = 0 + x_2.toNat then 1 else capB (x.p (0 + x_2.toNat)))
    (V.need (0 < if 0 + x_2.toNat = 0 + x_2.toNat then 1 else capB (x.p (0 + x_2.toNat)))
    (V.need (0 < if 0 + x_2.toNat = 0 + x_2.toNat then 1 else capB (x.p (0 + x_2.toNat)))
    (V.need (0 < if 0 + x_2.toNat = 0 + x_2.toNat then 1 else capB (x.p (0 + x_2.toNat)))
    (V.need (0 < if 0 + x_2.toNat = 0 + x_2.toNat then 1 else capB (x.p (0 + x_2.toNat)))
    (V.need (0 < if 0 + x_2.toNat = 0 + x_2.toNat then 1 else capB (x.p (0 + x_2.toNat)))
    (V.need (0 < if 0 + x_2.toNat = 0 + x_2.toNat then 1 else capB (x.p (0 + x_2.toNat)))
    (V.need (0 < if 0 + x_2.toNat = 0 + x_2.toNat then 1 else capB (x.p (0 + x_2.toNat)))
    (V.need (0 < if 0 + x_2.toNat = 0 + x_2.toNat then 1 else capB (x.p (0 + x_2.toNat)))
    (V.need (0 < if 0 + x_2.toNat = 0 + x_2.toNat then 1 else capB (x.p (0 + x_2.toNat)))
    (V.need (Int.ofNat 0 ≤ x_2 ∧ x_2 < (↑(nLx a).toNat : Int))
    (V.need (0 + x_2.toNat < (nLx a).toNat)
    (V.need (0 + x_2.toNat < (nLx a).toNat)
    (V.need ((if 0 = 0 ∧ 0 + x_2.toNat = 0 + x_2.toNat then true else x.p (0 + x_2.toNat)) = true)
    (V.need (0 < if 0 + x_2.toNat = 0 + x_2.toNat then 1 else capB (x.p (0 + x_2.toNat)))
    (V.need (0 < if 0 + x_2.toNat = 0 + x_2.toNat then 1 else capB (x.p (0 + x_2.toNat)))
    (V.need (0 < if 0 + x_2.toNat = 0 + x_2.toNat then 1 else capB (x.p (0 + x_2.toNat)))
    (V.need (0 < if 0 + x_2.toNat = 0 + x_2.toNat then 1 else capB (x.p (0 + x_2.toNat)))
    (V.need (0 < if 0 + x_2.toNat = 0 + x_2.toNat then 1 else capB (x.p (0 + x_2.toNat)))
    (V.need (0 < if 0 + x_2.toNat = 0 + x_2.toNat then 1 else capB (x.p (0 + x_2.toNat)))
    (V.need (0 < if 0 + x_2.toNat = 0 + x_2.toNat then 1 else capB (x.p (0 + x_2.toNat)))
    (V.need (Int.ofNat 0 ≤ x_2 ∧ x_2 < (↑(nLx a).toNat : Int))
    (V.need (0 + x_2.toNat < (nLx a).toNat)
    (V.need (0 + x_2.toNat < (nLx a).toNat)
    (nN [qE true]
    (V.need (Int.ofNat 0 ≤ x_2 ∧ x_2 < (↑(nLx a).toNat : Int))
    (V.need (0 + x_2.toNat < (nLx a).toNat)
    (V.need (0 + x_2.toNat < (nLx a).toNat)
    (V.need (Int.ofNat 0 ≤ x_2 ∧ x_2 < (↑(nLx a).toNat : Int))
    (V.need (0 + x_2.toNat < (nLx a).toNat)
    (V.need (0 + x_2.toNat < (nLx a).toNat)
    (V.need (Int.ofNat 0 ≤ x_2 ∧ x_2 < (↑(nLx a).toNat : Int))
    (V.need (0 + x_2.toNat < (nLx a).toNat)
    (V.need (0 + x_2.toNat < (nLx a).toNat)
    (V.need (I2 (XLx.mk x.i x_3 (fun (e : Nat) => if 0 = 0 ∧ e = 0 + x_2.toNat then false else if 0 = 0 ∧ e = 0 + x_2.toNat then true else x.p e) fun (e : Nat) => if 0 = 0 ∧ e = 0 + x_2.toNat then (if 0 + x_2.toNat = 0 + x_2.toNat ∧ 0 = 0 then Int.ofNat 1 else if 0 + x_2.toNat = 0 + x_2.toNat then numAt [SC.ki IntKind.i64 (Int.ofNat 0)] 0 else Int.ofNat 0) == Int.ofNat 1 else x.ho e) (XLy.mk (Int.ofNat 0) (Int.ofNat 0)))
    (nN [(2, .eqI 0 0)]
    (V.any XLy (I2 (XLx.mk x.i x_3 (fun (e : Nat) => if 0 = 0 ∧ e = 0 + x_2.toNat then false else if 0 = 0 ∧ e = 0 + x_2.toNat then true else x.p e) fun (e : Nat) => if 0 = 0 ∧ e = 0 + x_2.toNat then (if 0 + x_2.toNat = 0 + x_2.toNat ∧ 0 = 0 then Int.ofNat 1 else if 0 + x_2.toNat = 0 + x_2.toNat then numAt [SC.ki IntKind.i64 (Int.ofNat 0)] 0 else Int.ofNat 0) == Int.ofNat 1 else x.ho e)) fun (x_5 : XLy) => V.br (decide (x_5.k < nLx a))
    (V.need (Int.ofNat 0 ≤ x_5.k ∧ x_5.k < (↑(nLx a).toNat : Int))
    (V.need (0 < 1 ∧ 0 + x_5.k.toNat < (nLx a).toNat)
    (V.need (0 < 1 ∧ 0 + x_5.k.toNat < (nLx a).toNat)
    (V.br (if 0 = 0 ∧ 0 + x_5.k.toNat = 0 + x_2.toNat then (if 0 + x_2.toNat = 0 + x_2.toNat ∧ 0 = 0 then Int.ofNat 1 else if 0 + x_2.toNat = 0 + x_2.toNat then numAt [SC.ki IntKind.i64 (Int.ofNat 0)] 0 else Int.ofNat 0) == Int.ofNat 1 else x.ho (0 + x_5.k.toNat))
    (nN [(3, .lt2 0 1 0 1), (1, .eqI 1 1), (1, .le 1 1), (1, .pf (∀ (i : Nat), i < 1 → 1 ≤ 1) (by intros; exact Nat.le_refl _)), qE x_3.ct, (1, .le 1 1), (1, .pf (∀ (i : Nat), i < 1 → 16 ≤ 16) (by intros; exact Nat.le_refl _)), (1, .pf (∀ (i e : Nat), i < 1 ∧ e < 16 → x_3.g e = x_3.g e) (by intros; rfl)), qX (x_3.val 16 (Int.ofNat 1))]
    (V.any Int (fun (v : Int) => v = x_3.val 16 (Int.ofNat 1)) fun (x_6 : Int) => V.br (x_6 != IntKind.u64.wrap (IntKind.i64.wrap (x_5.k + Int.ofNat 1)))
    (V.bad 420)
    (V.need (I2 (XLx.mk x.i x_3 (fun (e : Nat) => if 0 = 0 ∧ e = 0 + x_2.toNat then false else if 0 = 0 ∧ e = 0 + x_2.toNat then true else x.p e) fun (e : Nat) => if 0 = 0 ∧ e = 0 + x_2.toNat then (if 0 + x_2.toNat = 0 + x_2.toNat ∧ 0 = 0 then Int.ofNat 1 else if 0 + x_2.toNat = 0 + x_2.toNat then numAt [SC.ki IntKind.i64 (Int.ofNat 0)] 0 else Int.ofNat 0) == Int.ofNat 1 else x.ho e) (XLy.mk (IntKind.i64.wrap (x_5.k + Int.ofNat 1)) (IntKind.i64.wrap (x_5.h + Int.ofNat 1))))
    (V.need ((nLx a - IntKind.i64.wrap (x_5.k + Int.ofNat 1)).toNat < (nLx a - x_5.k).toNat)
    (nN [qE (IntKind.i64.wrap (x_5.k + Int.ofNat 1)), qE (IntKind.i64.wrap (x_5.h + Int.ofNat 1))] V.ok)))))
    (V.need (I2 (XLx.mk x.i x_3 (fun (e : Nat) => if 0 = 0 ∧ e = 0 + x_2.toNat then false else if 0 = 0 ∧ e = 0 + x_2.toNat then true else x.p e) fun (e : Nat) => if 0 = 0 ∧ e = 0 + x_2.toNat then (if 0 + x_2.toNat = 0 + x_2.toNat ∧ 0 = 0 then Int.ofNat 1 else if 0 + x_2.toNat = 0 + x_2.toNat then numAt [SC.ki IntKind.i64 (Int.ofNat 0)] 0 else Int.ofNat 0) == Int.ofNat 1 else x.ho e) (XLy.mk (IntKind.i64.wrap (x_5.k + Int.ofNat 1)) x_5.h))
    (V.need ((nLx a - IntKind.i64.wrap (x_5.k + Int.ofNat 1)).toNat < (nLx a - x_5.k).toNat)
    (nN [qE (IntKind.i64.wrap (x_5.k + Int.ofNat 1)), qE x_5.h] V.ok)))))))
    (V.br (decide (x_5.h > Int.ofNat 1))
    (V.bad 420)
    (V.br (x_5.h == Int.ofNat 0)
    (nN [(3, .lt2 0 1 0 1), (1, .eqI 1 1), qE x_3.ct, (1, .le 1 1), (1, .le2 16 16 16 16), (1, .pf (∀ (i e : Nat), i = 0 ∧ e < 16 → x_3.g e = x_3.g e) (by intros; rfl)), qX (x_3.val 16 (Int.ofNat 1))]
    (V.any Int (fun (v : Int) => v = x_3.val 16 (Int.ofNat 1)) fun (x_6 : Int) => V.br (x_6 != Int.ofNat 0)
    (V.bad 420)
    (V.need (I1 (XLx.mk (IntKind.i64.wrap (x.i + Int.ofNat 1)) x_3 (fun (e : Nat) => if 0 = 0 ∧ e = 0 + x_2.toNat then false else if 0 = 0 ∧ e = 0 + x_2.toNat then true else x.p e) fun (e : Nat) => if 0 = 0 ∧ e = 0 + x_2.toNat then (if 0 + x_2.toNat = 0 + x_2.toNat ∧ 0 = 0 then Int.ofNat 1 else if 0 + x_2.toNat = 0 + x_2.toNat then numAt [SC.ki IntKind.i64 (Int.ofNat 0)] 0 else Int.ofNat 0) == Int.ofNat 1 else x.ho e))
    (V.need (((↑lg : Int) - IntKind.i64.wrap (x.i + Int.ofNat 1)).toNat < ((↑lg : Int) - x.i).toNat)
    (nN [qE (IntKind.i64.wrap (x.i + Int.ofNat 1)), qE x_3.lk, qE x_3.lc, qE x_3.lo, qE x_3.ln, qE x_3.ct, (1, .eq 16 16), (1, .le 16 16), qF 16 x_3.g, qE ((nLx a).toNat)]
    (V.need ((nLx a).toNat ≤ (nLx a).toNat)
    (V.need (∀ (e : Nat), e < (nLx a).toNat → (if 0 = 0 ∧ e = 0 + x_2.toNat then false else if 0 = 0 ∧ e = 0 + x_2.toNat then true else x.p e) = if 0 = 0 ∧ e = 0 + x_2.toNat then false else if 0 = 0 ∧ e = 0 + x_2.toNat then true else x.p e)
    (nN [(1, .pf (∀ (i e : Nat), (i = 0 ∧ e < (nLx a).toNat) ∧ (if 0 = 0 ∧ e = 0 + x_2.toNat then false else if 0 = 0 ∧ e = 0 + x_2.toNat then true else x.p e) = true → e = e) (by intros; rfl)), qE ((nLx a).toNat)]
    (V.need ((nLx a).toNat ≤ (nLx a).toNat)
    (V.need (∀ (e : Nat), e < (nLx a).toNat → (if 0 = 0 ∧ e = 0 + x_2.toNat then (if 0 + x_2.toNat = 0 + x_2.toNat ∧ 0 = 0 then Int.ofNat 1 else if 0 + x_2.toNat = 0 + x_2.toNat then numAt [SC.ki IntKind.i64 (Int.ofNat 0)] 0 else Int.ofNat 0) == Int.ofNat 1 else x.ho e) = if 0 = 0 ∧ e = 0 + x_2.toNat then (if 0 + x_2.toNat = 0 + x_2.toNat ∧ 0 = 0 then Int.ofNat 1 else if 0 + x_2.toNat = 0 + x_2.toNat then numAt [SC.ki IntKind.i64 (Int.ofNat 0)] 0 else Int.ofNat 0) == Int.ofNat 1 else x.ho e)
    (nN [qE ((nLx a).toNat)]
    (V.need ((nLx a).toNat ≤ (nLx a).toNat)
    (V.need (∀ (e : Nat), e < (nLx a).toNat → (if 0 = 0 ∧ e = 0 + x_2.toNat then false else false) = false)
    (V.need (∀ (i : Nat), (if i = 0 + x_2.toNat then 1 else capB (x.p i)) = capB (if 0 = 0 ∧ i = 0 + x_2.toNat then false else if 0 = 0 ∧ i = 0 + x_2.toNat then true else x.p i) ∨ capB (if 0 = 0 ∧ i = 0 + x_2.toNat then false else if 0 = 0 ∧ i = 0 + x_2.toNat then true else x.p i) = 0)
    (V.need (∀ (i : Nat), capB (if 0 = 0 ∧ i = 0 + x_2.toNat then false else if 0 = 0 ∧ i = 0 + x_2.toNat then true else x.p i) ≤ capB (if 0 = 0 ∧ i = 0 + x_2.toNat then false else if 0 = 0 ∧ i = 0 + x_2.toNat then true else x.p i) ∧ capB (if 0 = 0 ∧ i = 0 + x_2.toNat then false else if 0 = 0 ∧ i = 0 + x_2.toNat then true else x.p i) ≤ if i = 0 + x_2.toNat then 1 else capB (x.p i))
    (V.need (∀ (i e : Nat), e < capB (if 0 = 0 ∧ i = 0 + x_2.toNat then false else if 0 = 0 ∧ i = 0 + x_2.toNat then true else x.p i) → (if i = 0 + x_2.toNat ∧ e = 0 then true else if i = 0 + x_2.toNat then boolAt [SC.kb false] e else false) = false)
    (V.need (∀ (i e : Nat), e < capB (if 0 = 0 ∧ i = 0 + x_2.toNat then false else if 0 = 0 ∧ i = 0 + x_2.toNat then true else x.p i) → (if i = 0 + x_2.toNat ∧ e = 0 then Int.ofNat 1 else if i = 0 + x_2.toNat then numAt [SC.ki IntKind.i64 (Int.ofNat 0)] e else Int.ofNat 0) = Int.ofNat 0)
    (V.need (∀ (i e : Nat), e < capB (if 0 = 0 ∧ i = 0 + x_2.toNat then false else if 0 = 0 ∧ i = 0 + x_2.toNat then true else x.p i) → (if i = 0 + x_2.toNat ∧ e = 0 then Int.ofNat 0 else if i = 0 + x_2.toNat then numAt [SC.ki IntKind.i64 (Int.ofNat 0)] e else Int.ofNat 0) = Int.ofNat 0)
    (V.need (∀ (i e : Nat), e < capB (if 0 = 0 ∧ i = 0 + x_2.toNat then false else if 0 = 0 ∧ i = 0 + x_2.toNat then true else x.p i) → (if i = 0 + x_2.toNat then numAt [SC.iv IntKind.i64 x_2] e else (↑i : Int)) = (↑i : Int))
    (V.need (∀ (i e : Nat), e < capB (if 0 = 0 ∧ i = 0 + x_2.toNat then false else if 0 = 0 ∧ i = 0 + x_2.toNat then true else x.p i) → (if i = 0 + x_2.toNat then boolAt [SC.kb false] e else false) = false) V.ok))))))))))))))))))))
    (V.need (I1 (XLx.mk (IntKind.i64.wrap (x.i + Int.ofNat 1)) x_3 (fun (e : Nat) => if 0 = 0 ∧ e = 0 + x_2.toNat then false else if 0 = 0 ∧ e = 0 + x_2.toNat then true else x.p e) fun (e : Nat) => if 0 = 0 ∧ e = 0 + x_2.toNat then (if 0 + x_2.toNat = 0 + x_2.toNat ∧ 0 = 0 then Int.ofNat 1 else if 0 + x_2.toNat = 0 + x_2.toNat then numAt [SC.ki IntKind.i64 (Int.ofNat 0)] 0 else Int.ofNat 0) == Int.ofNat 1 else x.ho e))
    (V.need (((↑lg : Int) - IntKind.i64.wrap (x.i + Int.ofNat 1)).toNat < ((↑lg : Int) - x.i).toNat)
    (nN [qE (IntKind.i64.wrap (x.i + Int.ofNat 1)), qE x_3.lk, qE x_3.lc, qE x_3.lo, qE x_3.ln, qE x_3.ct, (1, .eq 16 16), (1, .le 16 16), qF 16 x_3.g, qE ((nLx a).toNat)]
    (V.need ((nLx a).toNat ≤ (nLx a).toNat)
    (V.need (∀ (e : Nat), e < (nLx a).toNat → (if 0 = 0 ∧ e = 0 + x_2.toNat then false else if 0 = 0 ∧ e = 0 + x_2.toNat then true else x.p e) = if 0 = 0 ∧ e = 0 + x_2.toNat then false else if 0 = 0 ∧ e = 0 + x_2.toNat then true else x.p e)
    (nN [(1, .pf (∀ (i e : Nat), (i = 0 ∧ e < (nLx a).toNat) ∧ (if 0 = 0 ∧ e = 0 + x_2.toNat then false else if 0 = 0 ∧ e = 0 + x_2.toNat then true else x.p e) = true → e = e) (by intros; rfl)), qE ((nLx a).toNat)]
    (V.need ((nLx a).toNat ≤ (nLx a).toNat)
    (V.need (∀ (e : Nat), e < (nLx a).toNat → (if 0 = 0 ∧ e = 0 + x_2.toNat then (if 0 + x_2.toNat = 0 + x_2.toNat ∧ 0 = 0 then Int.ofNat 1 else if 0 + x_2.toNat = 0 + x_2.toNat then numAt [SC.ki IntKind.i64 (Int.ofNat 0)] 0 else Int.ofNat 0) == Int.ofNat 1 else x.ho e) = if 0 = 0 ∧ e = 0 + x_2.toNat then (if 0 + x_2.toNat = 0 + x_2.toNat ∧ 0 = 0 then Int.ofNat 1 else if 0 + x_2.toNat = 0 + x_2.toNat then numAt [SC.ki IntKind.i64 (Int.ofNat 0)] 0 else Int.ofNat 0) == Int.ofNat 1 else x.ho e)
    (nN [qE ((nLx a).toNat)]
    (V.need ((nLx a).toNat ≤ (nLx a).toNat)
    (V.need (∀ (e : Nat), e < (nLx a).toNat → (if 0 = 0 ∧ e = 0 + x_2.toNat then false else false) = false)
    (V.need (∀ (i : Nat), (if i = 0 + x_2.toNat then 1 else capB (x.p i)) = capB (if 0 = 0 ∧ i = 0 + x_2.toNat then false else if 0 = 0 ∧ i = 0 + x_2.toNat then true else x.p i) ∨ capB (if 0 = 0 ∧ i = 0 + x_2.toNat then false else if 0 = 0 ∧ i = 0 + x_2.toNat then true else x.p i) = 0)
    (V.need (∀ (i : Nat), capB (if 0 = 0 ∧ i = 0 + x_2.toNat then false else if 0 = 0 ∧ i = 0 + x_2.toNat then true else x.p i) ≤ capB (if 0 = 0 ∧ i = 0 + x_2.toNat then false else if 0 = 0 ∧ i = 0 + x_2.toNat then true else x.p i) ∧ capB (if 0 = 0 ∧ i = 0 + x_2.toNat then false else if 0 = 0 ∧ i = 0 + x_2.toNat then true else x.p i) ≤ if i = 0 + x_2.toNat then 1 else capB (x.p i))
    (V.need (∀ (i e : Nat), e < capB (if 0 = 0 ∧ i = 0 + x_2.toNat then false else if 0 = 0 ∧ i = 0 + x_2.toNat then true else x.p i) → (if i = 0 + x_2.toNat ∧ e = 0 then true else if i = 0 + x_2.toNat then boolAt [SC.kb false] e else false) = false)
    (V.need (∀ (i e : Nat), e < capB (if 0 = 0 ∧ i = 0 + x_2.toNat then false else if 0 = 0 ∧ i = 0 + x_2.toNat then true else x.p i) → (if i = 0 + x_2.toNat ∧ e = 0 then Int.ofNat 1 else if i = 0 + x_2.toNat then numAt [SC.ki IntKind.i64 (Int.ofNat 0)] e else Int.ofNat 0) = Int.ofNat 0)
    (V.need (∀ (i e : Nat), e < capB (if 0 = 0 ∧ i = 0 + x_2.toNat then false else if 0 = 0 ∧ i = 0 + x_2.toNat then true else x.p i) → (if i = 0 + x_2.toNat ∧ e = 0 then Int.ofNat 0 else if i = 0 + x_2.toNat then numAt [SC.ki IntKind.i64 (Int.ofNat 0)] e else Int.ofNat 0) = Int.ofNat 0)
    (V.need (∀ (i e : Nat), e < capB (if 0 = 0 ∧ i = 0 + x_2.toNat then false else if 0 = 0 ∧ i = 0 + x_2.toNat then true else x.p i) → (if i = 0 + x_2.toNat then numAt [SC.iv IntKind.i64 x_2] e else (↑i : Int)) = (↑i : Int))
    (V.need (∀ (i e : Nat), e < capB (if 0 = 0 ∧ i = 0 + x_2.toNat then false else if 0 = 0 ∧ i = 0 + x_2.toNat then true else x.p i) → (if i = 0 + x_2.toNat then boolAt [SC.kb false] e else false) = false) V.ok))))))))))))))))))))))))))))))))))))))))))))))))))))))))))
    (V.need (0 < if 0 + x_2.toNat = 0 + x_2.toNat then 1 else capB (x.p (0 + x_2.toNat)))
    (V.need (0 < if 0 + x_2.toNat = 0 + x_2.toNat then 1 else capB (x.p (0 + x_2.toNat)))
    (V.need (0 < if 0 + x_2.toNat = 0 + x_2.toNat then 1 else capB (x.p (0 + x_2.toNat)))
    (V.need ((if 0 + x_2.toNat = 0 + x_2.toNat then boolAt [SC.kb false] 0 else false) = false)
    (V.need (I2 (XLx.mk x.i x_3 (fun (e : Nat) => if 0 = 0 ∧ e = 0 + x_2.toNat then true else x.p e) fun (e : Nat) => x.ho e) (XLy.mk (Int.ofNat 0) (Int.ofNat 0)))
    (nN [(2, .eqI 0 0)]
    (V.any XLy (I2 (XLx.mk x.i x_3 (fun (e : Nat) => if 0 = 0 ∧ e = 0 + x_2.toNat then true else x.p e) fun (e : Nat) => x.ho e)) fun (x_5 : XLy) => V.br (decide (x_5.k < nLx a))
    (V.need (Int.ofNat 0 ≤ x_5.k ∧ x_5.k < (↑(nLx a).toNat : Int))
    (V.need (0 < 1 ∧ 0 + x_5.k.toNat < (nLx a).toNat)
    (V.need (0 < 1 ∧ 0 + x_5.k.toNat < (nLx a).toNat)
    (V.br (x.ho (0 + x_5.k.toNat))
    (nN [(3, .lt2 0 1 0 1), (1, .eqI 1 1), (1, .le 1 1), (1, .pf (∀ (i : Nat), i < 1 → 1 ≤ 1) (by intros; exact Nat.le_refl _)), qE x_3.ct, (1, .le 1 1), (1, .pf (∀ (i : Nat), i < 1 → 16 ≤ 16) (by intros; exact Nat.le_refl _)), (1, .pf (∀ (i e : Nat), i < 1 ∧ e < 16 → x_3.g e = x_3.g e) (by intros; rfl)), qX (x_3.val 16 (Int.ofNat 1))]
    (V.any Int (fun (v : Int) => v = x_3.val 16 (Int.ofNat 1)) fun (x_6 : Int) => V.br (x_6 != IntKind.u64.wrap (IntKind.i64.wrap (x_5.k + Int.ofNat 1)))
    (V.bad 420)
    (V.need (I2 (XLx.mk x.i x_3 (fun (e : Nat) => if 0 = 0 ∧ e = 0 + x_2.toNat then true else x.p e) fun (e : Nat) => x.ho e) (XLy.mk (IntKind.i64.wrap (x_5.k + Int.ofNat 1)) (IntKind.i64.wrap (x_5.h + Int.ofNat 1))))
    (V.need ((nLx a - IntKind.i64.wrap (x_5.k + Int.ofNat 1)).toNat < (nLx a - x_5.k).toNat)
    (nN [qE (IntKind.i64.wrap (x_5.k + Int.ofNat 1)), qE (IntKind.i64.wrap (x_5.h + Int.ofNat 1))] V.ok)))))
    (V.need (I2 (XLx.mk x.i x_3 (fun (e : Nat) => if 0 = 0 ∧ e = 0 + x_2.toNat then true else x.p e) fun (e : Nat) => x.ho e) (XLy.mk (IntKind.i64.wrap (x_5.k + Int.ofNat 1)) x_5.h))
    (V.need ((nLx a - IntKind.i64.wrap (x_5.k + Int.ofNat 1)).toNat < (nLx a - x_5.k).toNat)
    (nN [qE (IntKind.i64.wrap (x_5.k + Int.ofNat 1)), qE x_5.h] V.ok)))))))
    (V.br (decide (x_5.h > Int.ofNat 1))
    (V.bad 420)
    (V.br (x_5.h == Int.ofNat 0)
    (nN [(3, .lt2 0 1 0 1), (1, .eqI 1 1), qE x_3.ct, (1, .le 1 1), (1, .le2 16 16 16 16), (1, .pf (∀ (i e : Nat), i = 0 ∧ e < 16 → x_3.g e = x_3.g e) (by intros; rfl)), qX (x_3.val 16 (Int.ofNat 1))]
    (V.any Int (fun (v : Int) => v = x_3.val 16 (Int.ofNat 1)) fun (x_6 : Int) => V.br (x_6 != Int.ofNat 0)
    (V.bad 420)
    (V.need (I1 (XLx.mk (IntKind.i64.wrap (x.i + Int.ofNat 1)) x_3 (fun (e : Nat) => if 0 = 0 ∧ e = 0 + x_2.toNat then true else x.p e) fun (e : Nat) => x.ho e))
    (V.need (((↑lg : Int) - IntKind.i64.wrap (x.i + Int.ofNat 1)).toNat < ((↑lg : Int) - x.i).toNat)
    (nN [qE (IntKind.i64.wrap (x.i + Int.ofNat 1)), qE x_3.lk, qE x_3.lc, qE x_3.lo, qE x_3.ln, qE x_3.ct, (1, .eq 16 16), (1, .le 16 16), qF 16 x_3.g, qE ((nLx a).toNat)]
    (V.need ((nLx a).toNat ≤ (nLx a).toNat)
    (V.need (∀ (e : Nat), e < (nLx a).toNat → (if 0 = 0 ∧ e = 0 + x_2.toNat then true else x.p e) = if 0 = 0 ∧ e = 0 + x_2.toNat then true else x.p e)
    (nN [(1, .pf (∀ (i e : Nat), (i = 0 ∧ e < (nLx a).toNat) ∧ (if 0 = 0 ∧ e = 0 + x_2.toNat then true else x.p e) = true → e = e) (by intros; rfl)), qE ((nLx a).toNat)]
    (V.need ((nLx a).toNat ≤ (nLx a).toNat)
    (nN [(1, .pf (∀ (e : Nat), e < (nLx a).toNat → x.ho e = x.ho e) (by intros; rfl)), qE ((nLx a).toNat)]
    (V.need ((nLx a).toNat ≤ (nLx a).toNat)
    (nN [(1, .pf (∀ (e : Nat), e < (nLx a).toNat → false = false) (by intros; rfl))]
    (V.need (∀ (i : Nat), (if i = 0 + x_2.toNat then 1 else capB (x.p i)) = capB (if 0 = 0 ∧ i = 0 + x_2.toNat then true else x.p i) ∨ capB (if 0 = 0 ∧ i = 0 + x_2.toNat then true else x.p i) = 0)
    (V.need (∀ (i : Nat), capB (if 0 = 0 ∧ i = 0 + x_2.toNat then true else x.p i) ≤ capB (if 0 = 0 ∧ i = 0 + x_2.toNat then true else x.p i) ∧ capB (if 0 = 0 ∧ i = 0 + x_2.toNat then true else x.p i) ≤ if i = 0 + x_2.toNat then 1 else capB (x.p i))
    (V.need (∀ (i e : Nat), e < capB (if 0 = 0 ∧ i = 0 + x_2.toNat then true else x.p i) → (if i = 0 + x_2.toNat then boolAt [SC.kb false] e else false) = false)
    (V.need (∀ (i e : Nat), e < capB (if 0 = 0 ∧ i = 0 + x_2.toNat then true else x.p i) → (if i = 0 + x_2.toNat then numAt [SC.ki IntKind.i64 (Int.ofNat 0)] e else Int.ofNat 0) = Int.ofNat 0)
    (V.need (∀ (i e : Nat), e < capB (if 0 = 0 ∧ i = 0 + x_2.toNat then true else x.p i) → (if i = 0 + x_2.toNat then numAt [SC.ki IntKind.i64 (Int.ofNat 0)] e else Int.ofNat 0) = Int.ofNat 0)
    (V.need (∀ (i e : Nat), e < capB (if 0 = 0 ∧ i = 0 + x_2.toNat then true else x.p i) → (if i = 0 + x_2.toNat then numAt [SC.iv IntKind.i64 x_2] e else (↑i : Int)) = (↑i : Int))
    (V.need (∀ (i e : Nat), e < capB (if 0 = 0 ∧ i = 0 + x_2.toNat then true else x.p i) → (if i = 0 + x_2.toNat then boolAt [SC.kb false] e else false) = false) V.ok)))))))))))))))))))
    (V.need (I1 (XLx.mk (IntKind.i64.wrap (x.i + Int.ofNat 1)) x_3 (fun (e : Nat) => if 0 = 0 ∧ e = 0 + x_2.toNat then true else x.p e) fun (e : Nat) => x.ho e))
    (V.need (((↑lg : Int) - IntKind.i64.wrap (x.i + Int.ofNat 1)).toNat < ((↑lg : Int) - x.i).toNat)
    (nN [qE (IntKind.i64.wrap (x.i + Int.ofNat 1)), qE x_3.lk, qE x_3.lc, qE x_3.lo, qE x_3.ln, qE x_3.ct, (1, .eq 16 16), (1, .le 16 16), qF 16 x_3.g, qE ((nLx a).toNat)]
    (V.need ((nLx a).toNat ≤ (nLx a).toNat)
    (V.need (∀ (e : Nat), e < (nLx a).toNat → (if 0 = 0 ∧ e = 0 + x_2.toNat then true else x.p e) = if 0 = 0 ∧ e = 0 + x_2.toNat then true else x.p e)
    (nN [(1, .pf (∀ (i e : Nat), (i = 0 ∧ e < (nLx a).toNat) ∧ (if 0 = 0 ∧ e = 0 + x_2.toNat then true else x.p e) = true → e = e) (by intros; rfl)), qE ((nLx a).toNat)]
    (V.need ((nLx a).toNat ≤ (nLx a).toNat)
    (nN [(1, .pf (∀ (e : Nat), e < (nLx a).toNat → x.ho e = x.ho e) (by intros; rfl)), qE ((nLx a).toNat)]
    (V.need ((nLx a).toNat ≤ (nLx a).toNat)
    (nN [(1, .pf (∀ (e : Nat), e < (nLx a).toNat → false = false) (by intros; rfl))]
    (V.need (∀ (i : Nat), (if i = 0 + x_2.toNat then 1 else capB (x.p i)) = capB (if 0 = 0 ∧ i = 0 + x_2.toNat then true else x.p i) ∨ capB (if 0 = 0 ∧ i = 0 + x_2.toNat then true else x.p i) = 0)
    (V.need (∀ (i : Nat), capB (if 0 = 0 ∧ i = 0 + x_2.toNat then true else x.p i) ≤ capB (if 0 = 0 ∧ i = 0 + x_2.toNat then true else x.p i) ∧ capB (if 0 = 0 ∧ i = 0 + x_2.toNat then true else x.p i) ≤ if i = 0 + x_2.toNat then 1 else capB (x.p i))
    (V.need (∀ (i e : Nat), e < capB (if 0 = 0 ∧ i = 0 + x_2.toNat then true else x.p i) → (if i = 0 + x_2.toNat then boolAt [SC.kb false] e else false) = false)
    (V.need (∀ (i e : Nat), e < capB (if 0 = 0 ∧ i = 0 + x_2.toNat then true else x.p i) → (if i = 0 + x_2.toNat then numAt [SC.ki IntKind.i64 (Int.ofNat 0)] e else Int.ofNat 0) = Int.ofNat 0)
    (V.need (∀ (i e : Nat), e < capB (if 0 = 0 ∧ i = 0 + x_2.toNat then true else x.p i) → (if i = 0 + x_2.toNat then numAt [SC.ki IntKind.i64 (Int.ofNat 0)] e else Int.ofNat 0) = Int.ofNat 0)
    (V.need (∀ (i e : Nat), e < capB (if 0 = 0 ∧ i = 0 + x_2.toNat then true else x.p i) → (if i = 0 + x_2.toNat then numAt [SC.iv IntKind.i64 x_2] e else (↑i : Int)) = (↑i : Int))
    (V.need (∀ (i e : Nat), e < capB (if 0 = 0 ∧ i = 0 + x_2.toNat then true else x.p i) → (if i = 0 + x_2.toNat then boolAt [SC.kb false] e else false) = false) V.ok)))))))))))))))))))))))))))))))))))))))))))))))))))))
    (V.need (Int.ofNat 0 ≤ x_2 ∧ x_2 < (↑(nLx a).toNat : Int))
    (V.need (0 + x_2.toNat < (nLx a).toNat)
    (V.need (0 + x_2.toNat < (nLx a).toNat)
    (V.need ((1 ≤ 1 ∧ 1 ≤ 1 ∧ 1 ≤ 1 ∧ 1 ≤ [SC.iv IntKind.i64 x_2].length ∧ 1 ≤ 1 ∧ True) ∧ ∀ (i e : Nat), i = 0 ∧ e < (nLx a).toNat → ¬(i = 0 ∧ e = 0 + x_2.toNat) → e ≠ 0 + x_2.toNat)
    (V.need (Int.ofNat 0 ≤ x_2 ∧ x_2 < (↑(nLx a).toNat : Int))
    (V.need (0 + x_2.toNat < (nLx a).toNat)
    (V.need (0 + x_2.toNat < (nLx a).toNat)
    (V.need ((if 0 = 0 ∧ 0 + x_2.toNat = 0 + x_2.toNat then true else x.p (0 + x_2.toNat)) = true)
    (V.need (Int.ofNat 0 ≤ x_2 ∧ x_2 < (↑(nLx a).toNat : Int))
    (V.need (0 + x_2.toNat < (nLx a).toNat)
    (V.need (0 + x_2.toNat < (nLx a).toNat)
    (V.need ((if 0 = 0 ∧ 0 + x_2.toNat = 0 + x_2.toNat then true else x.p (0 + x_2.toNat)) = true)
    (V.need (0 < if 0 + x_2.toNat = 0 + x_2.toNat then 1 else capB (x.p (0 + x_2.toNat)))
    (V.need (0 < if 0 + x_2.toNat = 0 + x_2.toNat then 1 else capB (x.p (0 + x_2.toNat)))
    (V.need (0 < if 0 + x_2.toNat = 0 + x_2.toNat then 1 else capB (x.p (0 + x_2.toNat)))
    (V.need (0 < if 0 + x_2.toNat = 0 + x_2.toNat then 1 else capB (x.p (0 + x_2.toNat)))
    (V.need (0 < if 0 + x_2.toNat = 0 + x_2.toNat then 1 else capB (x.p (0 + x_2.toNat)))
    (V.need ((if 0 + x_2.toNat = 0 + x_2.toNat then boolAt [SC.kb false] 0 else false) = false)
    (nN [(16, .lt2 0 1 0 1)]
    (V.need (0 < if 0 + x_2.toNat = 0 + x_2.toNat then 1 else capB (x.p (0 + x_2.toNat)))
    (V.need (0 < if 0 + x_2.toNat = 0 + x_2.toNat then 1 else capB (x.p (0 + x_2.toNat)))
    (V.need (0 < if 0 + x_2.toNat = 0 + x_2.toNat then 1 else capB (x.p (0 + x_2.toNat)))
    (nN [(1, .eqI 1 1), (1, .eqI 0 0)]
    (V.need (IntKind.u64.wrap (IntKind.i64.wrap ((if 0 + x_2.toNat = 0 + x_2.toNat then numAt [SC.iv IntKind.i64 x_2] 0 else (↑(0 + x_2.toNat) : Int)) + Int.ofNat 1)) = IntKind.u64.wrap (IntKind.i64.wrap ((if 0 + x_2.toNat = 0 + x_2.toNat then numAt [SC.iv IntKind.i64 x_2] 0 else (↑(0 + x_2.toNat) : Int)) + Int.ofNat 1)))
    (nN [qE x.m.lk, qE x.m.lc, qE x.m.lo, qE x.m.ln, qE x.m.ct, (1, .eq 16 16), (1, .le 16 16), qF 16 x.m.g, qX (x.m.acc 16 (Int.ofNat 3) (Int.ofNat 1) (casV (x.m.hit 16 (Int.ofNat 1) (Int.ofNat 0)) (x.m.val 16 (Int.ofNat 1)) (IntKind.u64.wrap (IntKind.i64.wrap ((if 0 + x_2.toNat = 0 + x_2.toNat then numAt [SC.iv IntKind.i64 x_2] 0 else (↑(0 + x_2.toNat) : Int)) + Int.ofNat 1)))))]
    (V.any Mm (fun (m' : Mm) => m' = x.m.acc 16 (Int.ofNat 3) (Int.ofNat 1) (casV (x.m.hit 16 (Int.ofNat 1) (Int.ofNat 0)) (x.m.val 16 (Int.ofNat 1)) (IntKind.u64.wrap (IntKind.i64.wrap ((if 0 + x_2.toNat = 0 + x_2.toNat then numAt [SC.iv IntKind.i64 x_2] 0 else (↑(0 + x_2.toNat) : Int)) + Int.ofNat 1))))) fun (x_3 : Mm) => nN [qX (x.m.hit 16 (Int.ofNat 1) (Int.ofNat 0))]
    (V.any Bool (fun (v : Bool) => v = x.m.hit 16 (Int.ofNat 1) (Int.ofNat 0)) fun (x_4 : Bool) => V.br x_4
    (V.need (0 < if 0 + x_2.toNat = 0 + x_2.toNat then 1 else capB (x.p (0 + x_2.toNat)))
    (V.need (0 < if 0 + x_2.toNat = 0 + x_2.toNat then 1 else capB (x.p (0 + x_2.toNat)))
    (V.need (0 < if 0 + x_2.toNat = 0 + x_2.toNat then 1 else capB (x.p (0 + x_2.toNat)))
    (V.need (0 < if 0 + x_2.toNat = 0 + x_2.toNat then 1 else capB (x.p (0 + x_2.toNat)))
    (V.need (0 < if 0 + x_2.toNat = 0 + x_2.toNat then 1 else capB (x.p (0 + x_2.toNat)))
    (V.need (0 < if 0 + x_2.toNat = 0 + x_2.toNat then 1 else capB (x.p (0 + x_2.toNat)))
    (V.need (0 < if 0 + x_2.toNat = 0 + x_2.toNat then 1 else capB (x.p (0 + x_2.toNat)))
    (V.need (0 < if 0 + x_2.toNat = 0 + x_2.toNat then 1 else capB (x.p (0 + x_2.toNat)))
    (V.need (0 < if 0 + x_2.toNat = 0 + x_2.toNat then 1 else capB (x.p (0 + x_2.toNat)))
    (V.need (0 < if 0 + x_2.toNat = 0 + x_2.toNat then 1 else capB (x.p (0 + x_2.toNat)))
    (V.need (0 < if 0 + x_2.toNat = 0 + x_2.toNat then 1 else capB (x.p (0 + x_2.toNat)))
    (V.need (Int.ofNat 0 ≤ x_2 ∧ x_2 < (↑(nLx a).toNat : Int))
    (V.need (0 + x_2.toNat < (nLx a).toNat)
    (V.need (0 + x_2.toNat < (nLx a).toNat)
    (V.need ((if 0 = 0 ∧ 0 + x_2.toNat = 0 + x_2.toNat then true else x.p (0 + x_2.toNat)) = true)
    (V.need (0 < if 0 + x_2.toNat = 0 + x_2.toNat then 1 else capB (x.p (0 + x_2.toNat)))
    (V.need (0 < if 0 + x_2.toNat = 0 + x_2.toNat then 1 else capB (x.p (0 + x_2.toNat)))
    (V.need (0 < if 0 + x_2.toNat = 0 + x_2.toNat then 1 else capB (x.p (0 + x_2.toNat)))
    (V.need (0 < if 0 + x_2.toNat = 0 + x_2.toNat then 1 else capB (x.p (0 + x_2.toNat)))
    (V.need (0 < if 0 + x_2.toNat = 0 + x_2.toNat then 1 else capB (x.p (0 + x_2.toNat)))
    (V.need (0 < if 0 + x_2.toNat = 0 + x_2.toNat then 1 else capB (x.p (0 + x_2.toNat)))
    (V.need (0 < if 0 + x_2.toNat = 0 + x_2.toNat then 1 else capB (x.p (0 + x_2.toNat)))
    (V.need (Int.ofNat 0 ≤ x_2 ∧ x_2 < (↑(nLx a).toNat : Int))
    (V.need (0 + x_2.toNat < (nLx a).toNat)
    (V.need (0 + x_2.toNat < (nLx a).toNat)
    (nN [qE true]
    (V.need (Int.ofNat 0 ≤ x_2 ∧ x_2 < (↑(nLx a).toNat : Int))
    (V.need (0 + x_2.toNat < (nLx a).toNat)
    (V.need (0 + x_2.toNat < (nLx a).toNat)
    (V.need (Int.ofNat 0 ≤ x_2 ∧ x_2 < (↑(nLx a).toNat : Int))
    (V.need (0 + x_2.toNat < (nLx a).toNat)
    (V.need (0 + x_2.toNat < (nLx a).toNat)
    (V.need (Int.ofNat 0 ≤ x_2 ∧ x_2 < (↑(nLx a).toNat : Int))
    (V.need (0 + x_2.toNat < (nLx a).toNat)
    (V.need (0 + x_2.toNat < (nLx a).toNat)
    (V.need (I2 (XLx.mk x.i x_3 (fun (e : Nat) => if 0 = 0 ∧ e = 0 + x_2.toNat then false else if 0 = 0 ∧ e = 0 + x_2.toNat then true else x.p e) fun (e : Nat) => if 0 = 0 ∧ e = 0 + x_2.toNat then (if 0 + x_2.toNat = 0 + x_2.toNat ∧ 0 = 0 then Int.ofNat 1 else if 0 + x_2.toNat = 0 + x_2.toNat then numAt [SC.ki IntKind.i64 (Int.ofNat 0)] 0 else Int.ofNat 0) == Int.ofNat 1 else x.ho e) (XLy.mk (Int.ofNat 0) (Int.ofNat 0)))
    (nN [(2, .eqI 0 0)]
    (V.any XLy (I2 (XLx.mk x.i x_3 (fun (e : Nat) => if 0 = 0 ∧ e = 0 + x_2.toNat then false else if 0 = 0 ∧ e = 0 + x_2.toNat then true else x.p e) fun (e : Nat) => if 0 = 0 ∧ e = 0 + x_2.toNat then (if 0 + x_2.toNat = 0 + x_2.toNat ∧ 0 = 0 then Int.ofNat 1 else if 0 + x_2.toNat = 0 + x_2.toNat then numAt [SC.ki IntKind.i64 (Int.ofNat 0)] 0 else Int.ofNat 0) == Int.ofNat 1 else x.ho e)) fun (x_5 : XLy) => V.br (decide (x_5.k < nLx a))
    (V.need (Int.ofNat 0 ≤ x_5.k ∧ x_5.k < (↑(nLx a).toNat : Int))
    (V.need (0 < 1 ∧ 0 + x_5.k.toNat < (nLx a).toNat)
    (V.need (0 < 1 ∧ 0 + x_5.k.toNat < (nLx a).toNat)
    (V.br (if 0 = 0 ∧ 0 + x_5.k.toNat = 0 + x_2.toNat then (if 0 + x_2.toNat = 0 + x_2.toNat ∧ 0 = 0 then Int.ofNat 1 else if 0 + x_2.toNat = 0 + x_2.toNat then numAt [SC.ki IntKind.i64 (Int.ofNat 0)] 0 else Int.ofNat 0) == Int.ofNat 1 else x.ho (0 + x_5.k.toNat))
    (nN [(3, .lt2 0 1 0 1), (1, .eqI 1 1), (1, .le 1 1), (1, .pf (∀ (i : Nat), i < 1 → 1 ≤ 1) (by intros; exact Nat.le_refl _)), qE x_3.ct, (1, .le 1 1), (1, .pf (∀ (i : Nat), i < 1 → 16 ≤ 16) (by intros; exact Nat.le_refl _)), (1, .pf (∀ (i e : Nat), i < 1 ∧ e < 16 → x_3.g e = x_3.g e) (by intros; rfl)), qX (x_3.val 16 (Int.ofNat 1))]
    (V.any Int (fun (v : Int) => v = x_3.val 16 (Int.ofNat 1)) fun (x_6 : Int) => V.br (x_6 != IntKind.u64.wrap (IntKind.i64.wrap (x_5.k + Int.ofNat 1)))
    (V.bad 420)
    (V.need (I2 (XLx.mk x.i x_3 (fun (e : Nat) => if 0 = 0 ∧ e = 0 + x_2.toNat then false else if 0 = 0 ∧ e = 0 + x_2.toNat then true else x.p e) fun (e : Nat) => if 0 = 0 ∧ e = 0 + x_2.toNat then (if 0 + x_2.toNat = 0 + x_2.toNat ∧ 0 = 0 then Int.ofNat 1 else if 0 + x_2.toNat = 0 + x_2.toNat then numAt [SC.ki IntKind.i64 (Int.ofNat 0)] 0 else Int.ofNat 0) == Int.ofNat 1 else x.ho e) (XLy.mk (IntKind.i64.wrap (x_5.k + Int.ofNat 1)) (IntKind.i64.wrap (x_5.h + Int.ofNat 1))))
    (V.need ((nLx a - IntKind.i64.wrap (x_5.k + Int.ofNat 1)).toNat < (nLx a - x_5.k).toNat)
    (nN [qE (IntKind.i64.wrap (x_5.k + Int.ofNat 1)), qE (IntKind.i64.wrap (x_5.h + Int.ofNat 1))] V.ok)))))
    (V.need (I2 (XLx.mk x.i x_3 (fun (e : Nat) => if 0 = 0 ∧ e = 0 + x_2.toNat then false else if 0 = 0 ∧ e = 0 + x_2.toNat then true else x.p e) fun (e : Nat) => if 0 = 0 ∧ e = 0 + x_2.toNat then (if 0 + x_2.toNat = 0 + x_2.toNat ∧ 0 = 0 then Int.ofNat 1 else if 0 + x_2.toNat = 0 + x_2.toNat then numAt [SC.ki IntKind.i64 (Int.ofNat 0)] 0 else Int.ofNat 0) == Int.ofNat 1 else x.ho e) (XLy.mk (IntKind.i64.wrap (x_5.k + Int.ofNat 1)) x_5.h))
    (V.need ((nLx a - IntKind.i64.wrap (x_5.k + Int.ofNat 1)).toNat < (nLx a - x_5.k).toNat)
    (nN [qE (IntKind.i64.wrap (x_5.k + Int.ofNat 1)), qE x_5.h] V.ok)))))))
    (V.br (decide (x_5.h > Int.ofNat 1))
    (V.bad 420)
    (V.br (x_5.h == Int.ofNat 0)
    (nN [(3, .lt2 0 1 0 1), (1, .eqI 1 1), qE x_3.ct, (1, .le 1 1), (1, .le2 16 16 16 16), (1, .pf (∀ (i e : Nat), i = 0 ∧ e < 16 → x_3.g e = x_3.g e) (by intros; rfl)), qX (x_3.val 16 (Int.ofNat 1))]
    (V.any Int (fun (v : Int) => v = x_3.val 16 (Int.ofNat 1)) fun (x_6 : Int) => V.br (x_6 != Int.ofNat 0)
    (V.bad 420)
    (V.need (I1 (XLx.mk (IntKind.i64.wrap (x.i + Int.ofNat 1)) x_3 (fun (e : Nat) => if 0 = 0 ∧ e = 0 + x_2.toNat then false else if 0 = 0 ∧ e = 0 + x_2.toNat then true else x.p e) fun (e : Nat) => if 0 = 0 ∧ e = 0 + x_2.toNat then (if 0 + x_2.toNat = 0 + x_2.toNat ∧ 0 = 0 then Int.ofNat 1 else if 0 + x_2.toNat = 0 + x_2.toNat then numAt [SC.ki IntKind.i64 (Int.ofNat 0)] 0 else Int.ofNat 0) == Int.ofNat 1 else x.ho e))
    (V.need (((↑lg : Int) - IntKind.i64.wrap (x.i + Int.ofNat 1)).toNat < ((↑lg : Int) - x.i).toNat)
    (nN [qE (IntKind.i64.wrap (x.i + Int.ofNat 1)), qE x_3.lk, qE x_3.lc, qE x_3.lo, qE x_3.ln, qE x_3.ct, (1, .eq 16 16), (1, .le 16 16), qF 16 x_3.g, qE ((nLx a).toNat)]
    (V.need ((nLx a).toNat ≤ (nLx a).toNat)
    (V.need (∀ (e : Nat), e < (nLx a).toNat → (if 0 = 0 ∧ e = 0 + x_2.toNat then false else if 0 = 0 ∧ e = 0 + x_2.toNat then true else x.p e) = if 0 = 0 ∧ e = 0 + x_2.toNat then false else if 0 = 0 ∧ e = 0 + x_2.toNat then true else x.p e)
    (nN [(1, .pf (∀ (i e : Nat), (i = 0 ∧ e < (nLx a).toNat) ∧ (if 0 = 0 ∧ e = 0 + x_2.toNat then false else if 0 = 0 ∧ e = 0 + x_2.toNat then true else x.p e) = true → e = e) (by intros; rfl)), qE ((nLx a).toNat)]
    (V.need ((nLx a).toNat ≤ (nLx a).toNat)
    (V.need (∀ (e : Nat), e < (nLx a).toNat → (if 0 = 0 ∧ e = 0 + x_2.toNat then (if 0 + x_2.toNat = 0 + x_2.toNat ∧ 0 = 0 then Int.ofNat 1 else if 0 + x_2.toNat = 0 + x_2.toNat then numAt [SC.ki IntKind.i64 (Int.ofNat 0)] 0 else Int.ofNat 0) == Int.ofNat 1 else x.ho e) = if 0 = 0 ∧ e = 0 + x_2.toNat then (if 0 + x_2.toNat = 0 + x_2.toNat ∧ 0 = 0 then Int.ofNat 1 else if 0 + x_2.toNat = 0 + x_2.toNat then numAt [SC.ki IntKind.i64 (Int.ofNat 0)] 0 else Int.ofNat 0) == Int.ofNat 1 else x.ho e)
    (nN [qE ((nLx a).toNat)]
    (V.need ((nLx a).toNat ≤ (nLx a).toNat)
    (V.need (∀ (e : Nat), e < (nLx a).toNat → (if 0 = 0 ∧ e = 0 + x_2.toNat then false else false) = false)
    (V.need (∀ (i : Nat), (if i = 0 + x_2.toNat then 1 else capB (x.p i)) = capB (if 0 = 0 ∧ i = 0 + x_2.toNat then false else if 0 = 0 ∧ i = 0 + x_2.toNat then true else x.p i) ∨ capB (if 0 = 0 ∧ i = 0 + x_2.toNat then false else if 0 = 0 ∧ i = 0 + x_2.toNat then true else x.p i) = 0)
    (V.need (∀ (i : Nat), capB (if 0 = 0 ∧ i = 0 + x_2.toNat then false else if 0 = 0 ∧ i = 0 + x_2.toNat then true else x.p i) ≤ capB (if 0 = 0 ∧ i = 0 + x_2.toNat then false else if 0 = 0 ∧ i = 0 + x_2.toNat then true else x.p i) ∧ capB (if 0 = 0 ∧ i = 0 + x_2.toNat then false else if 0 = 0 ∧ i = 0 + x_2.toNat then true else x.p i) ≤ if i = 0 + x_2.toNat then 1 else capB (x.p i))
    (V.need (∀ (i e : Nat), e < capB (if 0 = 0 ∧ i = 0 + x_2.toNat then false else if 0 = 0 ∧ i = 0 + x_2.toNat then true else x.p i) → (if i = 0 + x_2.toNat ∧ e = 0 then true else if i = 0 + x_2.toNat then boolAt [SC.kb false] e else false) = false)
    (V.need (∀ (i e : Nat), e < capB (if 0 = 0 ∧ i = 0 + x_2.toNat then false else if 0 = 0 ∧ i = 0 + x_2.toNat then true else x.p i) → (if i = 0 + x_2.toNat ∧ e = 0 then Int.ofNat 1 else if i = 0 + x_2.toNat then numAt [SC.ki IntKind.i64 (Int.ofNat 0)] e else Int.ofNat 0) = Int.ofNat 0)
    (V.need (∀ (i e : Nat), e < capB (if 0 = 0 ∧ i = 0 + x_2.toNat then false else if 0 = 0 ∧ i = 0 + x_2.toNat then true else x.p i) → (if i = 0 + x_2.toNat ∧ e = 0 then Int.ofNat 0 else if i = 0 + x_2.toNat then numAt [SC.ki IntKind.i64 (Int.ofNat 0)] e else Int.ofNat 0) = Int.ofNat 0)
    (V.need (∀ (i e : Nat), e < capB (if 0 = 0 ∧ i = 0 + x_2.toNat then false else if 0 = 0 ∧ i = 0 + x_2.toNat then true else x.p i) → (if i = 0 + x_2.toNat then numAt [SC.iv IntKind.i64 x_2] e else (↑i : Int)) = (↑i : Int))
    (V.need (∀ (i e : Nat), e < capB (if 0 = 0 ∧ i = 0 + x_2.toNat then false else if 0 = 0 ∧ i = 0 + x_2.toNat then true else x.p i) → (if i = 0 + x_2.toNat then boolAt [SC.kb true] e else false) = false) V.ok))))))))))))))))))))
    (V.need (I1 (XLx.mk (IntKind.i64.wrap (x.i + Int.ofNat 1)) x_3 (fun (e : Nat) => if 0 = 0 ∧ e = 0 + x_2.toNat then false else if 0 = 0 ∧ e = 0 + x_2.toNat then true else x.p e) fun (e : Nat) => if 0 = 0 ∧ e = 0 + x_2.toNat then (if 0 + x_2.toNat = 0 + x_2.toNat ∧ 0 = 0 then Int.ofNat 1 else if 0 + x_2.toNat = 0 + x_2.toNat then numAt [SC.ki IntKind.i64 (Int.ofNat 0)] 0 else Int.ofNat 0) == Int.ofNat 1 else x.ho e))
    (V.need (((↑lg : Int) - IntKind.i64.wrap (x.i + Int.ofNat 1)).toNat < ((↑lg : Int) - x.i).toNat)
    (nN [qE (IntKind.i64.wrap (x.i + Int.ofNat 1)), qE x_3.lk, qE x_3.lc, qE x_3.lo, qE x_3.ln, qE x_3.ct, (1, .eq 16 16), (1, .le 16 16), qF 16 x_3.g, qE ((nLx a).toNat)]
    (V.need ((nLx a).toNat ≤ (nLx a).toNat)
    (V.need (∀ (e : Nat), e < (nLx a).toNat → (if 0 = 0 ∧ e = 0 + x_2.toNat then false else if 0 = 0 ∧ e = 0 + x_2.toNat then true else x.p e) = if 0 = 0 ∧ e = 0 + x_2.toNat then false else if 0 = 0 ∧ e = 0 + x_2.toNat then true else x.p e)
    (nN [(1, .pf (∀ (i e : Nat), (i = 0 ∧ e < (nLx a).toNat) ∧ (if 0 = 0 ∧ e = 0 + x_2.toNat then false else if 0 = 0 ∧ e = 0 + x_2.toNat then true else x.p e) = true → e = e) (by intros; rfl)), qE ((nLx a).toNat)]
    (V.need ((nLx a).toNat ≤ (nLx a).toNat)
    (V.need (∀ (e : Nat), e < (nLx a).toNat → (if 0 = 0 ∧ e = 0 + x_2.toNat then (if 0 + x_2.toNat = 0 + x_2.toNat ∧ 0 = 0 then Int.ofNat 1 else if 0 + x_2.toNat = 0 + x_2.toNat then numAt [SC.ki IntKind.i64 (Int.ofNat 0)] 0 else Int.ofNat 0) == Int.ofNat 1 else x.ho e) = if 0 = 0 ∧ e = 0 + x_2.toNat then (if 0 + x_2.toNat = 0 + x_2.toNat ∧ 0 = 0 then Int.ofNat 1 else if 0 + x_2.toNat = 0 + x_2.toNat then numAt [SC.ki IntKind.i64 (Int.ofNat 0)] 0 else Int.ofNat 0) == Int.ofNat 1 else x.ho e)
    (nN [qE ((nLx a).toNat)]
    (V.need ((nLx a).toNat ≤ (nLx a).toNat)
    (V.need (∀ (e : Nat), e < (nLx a).toNat → (if 0 = 0 ∧ e = 0 + x_2.toNat then false else false) = false)
    (V.need (∀ (i : Nat), (if i = 0 + x_2.toNat then 1 else capB (x.p i)) = capB (if 0 = 0 ∧ i = 0 + x_2.toNat then false else if 0 = 0 ∧ i = 0 + x_2.toNat then true else x.p i) ∨ capB (if 0 = 0 ∧ i = 0 + x_2.toNat then false else if 0 = 0 ∧ i = 0 + x_2.toNat then true else x.p i) = 0)
    (V.need (∀ (i : Nat), capB (if 0 = 0 ∧ i = 0 + x_2.toNat then false else if 0 = 0 ∧ i = 0 + x_2.toNat then true else x.p i) ≤ capB (if 0 = 0 ∧ i = 0 + x_2.toNat then false else if 0 = 0 ∧ i = 0 + x_2.toNat then true else x.p i) ∧ capB (if 0 = 0 ∧ i = 0 + x_2.toNat then false else if 0 = 0 ∧ i = 0 + x_2.toNat then true else x.p i) ≤ if i = 0 + x_2.toNat then 1 else capB (x.p i))
    (V.need (∀ (i e : Nat), e < capB (if 0 = 0 ∧ i = 0 + x_2.toNat then false else if 0 = 0 ∧ i = 0 + x_2.toNat then true else x.p i) → (if i = 0 + x_2.toNat ∧ e = 0 then true else if i = 0 + x_2.toNat then boolAt [SC.kb false] e else false) = false)
    (V.need (∀ (i e : Nat), e < capB (if 0 = 0 ∧ i = 0 + x_2.toNat then false else if 0 = 0 ∧ i = 0 + x_2.toNat then true else x.p i) → (if i = 0 + x_2.toNat ∧ e = 0 then Int.ofNat 1 else if i = 0 + x_2.toNat then numAt [SC.ki IntKind.i64 (Int.ofNat 0)] e else Int.ofNat 0) = Int.ofNat 0)
    (V.need (∀ (i e : Nat), e < capB (if 0 = 0 ∧ i = 0 + x_2.toNat then false else if 0 = 0 ∧ i = 0 + x_2.toNat then true else x.p i) → (if i = 0 + x_2.toNat ∧ e = 0 then Int.ofNat 0 else if i = 0 + x_2.toNat then numAt [SC.ki IntKind.i64 (Int.ofNat 0)] e else Int.ofNat 0) = Int.ofNat 0)
    (V.need (∀ (i e : Nat), e < capB (if 0 = 0 ∧ i = 0 + x_2.toNat then false else if 0 = 0 ∧ i = 0 + x_2.toNat then true else x.p i) → (if i = 0 + x_2.toNat then numAt [SC.iv IntKind.i64 x_2] e else (↑i : Int)) = (↑i : Int))
    (V.need (∀ (i e : Nat), e < capB (if 0 = 0 ∧ i = 0 + x_2.toNat then false else if 0 = 0 ∧ i = 0 + x_2.toNat then true else x.p i) → (if i = 0 + x_2.toNat then boolAt [SC.kb true] e else false) = false) V.ok))))))))))))))))))))))))))))))))))))))))))))))))))))))))))
    (V.need (0 < if 0 + x_2.toNat = 0 + x_2.toNat then 1 else capB (x.p (0 + x_2.toNat)))
    (V.need (0 < if 0 + x_2.toNat = 0 + x_2.toNat then 1 else capB (x.p (0 + x_2.toNat)))
    (V.need (0 < if 0 + x_2.toNat = 0 + x_2.toNat then 1 else capB (x.p (0 + x_2.toNat)))
    (V.need ((if 0 + x_2.toNat = 0 + x_2.toNat then boolAt [SC.kb true] 0 else false) = true)
    (V.need (0 < if 0 + x_2.toNat = 0 + x_2.toNat then 1 else capB (x.p (0 + x_2.toNat)))
    (V.need (0 < if 0 + x_2.toNat = 0 + x_2.toNat then 1 else capB (x.p (0 + x_2.toNat)))
    (V.need (0 < if 0 + x_2.toNat = 0 + x_2.toNat then 1 else capB (x.p (0 + x_2.toNat)))
    (V.need (0 < if 0 + x_2.toNat = 0 + x_2.toNat then 1 else capB (x.p (0 + x_2.toNat)))
    (V.need (0 < if 0 + x_2.toNat = 0 + x_2.toNat then 1 else capB (x.p (0 + x_2.toNat)))
    (V.need (0 < if 0 + x_2.toNat = 0 + x_2.toNat then 1 else capB (x.p (0 + x_2.toNat)))
    (V.need (0 < if 0 + x_2.toNat = 0 + x_2.toNat then 1 else capB (x.p (0 + x_2.toNat)))
    (V.need (0 < if 0 + x_2.toNat = 0 + x_2.toNat then 1 else capB (x.p (0 + x_2.toNat)))
    (V.need (0 < if 0 + x_2.toNat = 0 + x_2.toNat then 1 else capB (x.p (0 + x_2.toNat)))
    (V.need (0 < if 0 + x_2.toNat = 0 + x_2.toNat then 1 else capB (x.p (0 + x_2.toNat)))
    (V.need (0 < if 0 + x_2.toNat = 0 + x_2.toNat then 1 else capB (x.p (0 + x_2.toNat)))
    (V.need (Int.ofNat 0 ≤ x_2 ∧ x_2 < (↑(nLx a).toNat : Int))
    (V.need (0 + x_2.toNat < (nLx a).toNat)
    (V.need (0 + x_2.toNat < (nLx a).toNat)
    (V.need ((if 0 = 0 ∧ 0 + x_2.toNat = 0 + x_2.toNat then true else x.p (0 + x_2.toNat)) = true)
    (V.need (0 < if 0 + x_2.toNat = 0 + x_2.toNat then 1 else capB (x.p (0 + x_2.toNat)))
    (V.need (0 < if 0 + x_2.toNat = 0 + x_2.toNat then 1 else capB (x.p (0 + x_2.toNat)))
    (V.need (0 < if 0 + x_2.toNat = 0 + x_2.toNat then 1 else capB (x.p (0 + x_2.toNat)))
    (V.need (0 < if 0 + x_2.toNat = 0 + x_2.toNat then 1 else capB (x.p (0 + x_2.toNat)))
    (V.need (0 < if 0 + x_2.toNat = 0 + x_2.toNat then 1 else capB (x.p (0 + x_2.toNat)))
    (V.need (0 < if 0 + x_2.toNat = 0 + x_2.toNat then 1 else capB (x.p (0 + x_2.toNat)))
    (V.need (0 < if 0 + x_2.toNat = 0 + x_2.toNat then 1 else capB (x.p (0 + x_2.toNat)))
    (V.need (Int.ofNat 0 ≤ x_2 ∧ x_2 < (↑(nLx a).toNat : Int))
    (V.need (0 + x_2.toNat < (nLx a).toNat)
    (V.need (0 + x_2.toNat < (nLx a).toNat)
    (nN [qE true]
    (V.need (Int.ofNat 0 ≤ x_2 ∧ x_2 < (↑(nLx a).toNat : Int))
    (V.need (0 + x_2.toNat < (nLx a).toNat)
    (V.need (0 + x_2.toNat < (nLx a).toNat)
    (V.need (Int.ofNat 0 ≤ x_2 ∧ x_2 < (↑(nLx a).toNat : Int))
    (V.need (0 + x_2.toNat < (nLx a).toNat)
    (V.need (0 + x_2.toNat < (nLx a).toNat)
    (V.need (Int.ofNat 0 ≤ x_2 ∧ x_2 < (↑(nLx a).toNat : Int))
    (V.need (0 + x_2.toNat < (nLx a).toNat)
    (V.need (0 + x_2.toNat < (nLx a).toNat)
    (V.need (I2 (XLx.mk x.i x_3 (fun (e : Nat) => if 0 = 0 ∧ e = 0 + x_2.toNat then false else if 0 = 0 ∧ e = 0 + x_2.toNat then true else x.p e) fun (e : Nat) => if 0 = 0 ∧ e = 0 + x_2.toNat then (if 0 + x_2.toNat = 0 + x_2.toNat ∧ 0 = 0 then Int.ofNat 5 else if 0 + x_2.toNat = 0 + x_2.toNat then numAt [SC.ki IntKind.i64 (Int.ofNat 0)] 0 else Int.ofNat 0) == Int.ofNat 1 else x.ho e) (XLy.mk (Int.ofNat 0) (Int.ofNat 0)))
    (nN [(2, .eqI 0 0)]
    (V.any XLy (I2 (XLx.mk x.i x_3 (fun (e : Nat) => if 0 = 0 ∧ e = 0 + x_2.toNat then false else if 0 = 0 ∧ e = 0 + x_2.toNat then true else x.p e) fun (e : Nat) => if 0 = 0 ∧ e = 0 + x_2.toNat then (if 0 + x_2.toNat = 0 + x_2.toNat ∧ 0 = 0 then Int.ofNat 5 else if 0 + x_2.toNat = 0 + x_2.toNat then numAt [SC.ki IntKind.i64 (Int.ofNat 0)] 0 else Int.ofNat 0) == Int.ofNat 1 else x.ho e)) fun (x_5 : XLy) => V.br (decide (x_5.k < nLx a))
    (V.need (Int.ofNat 0 ≤ x_5.k ∧ x_5.k < (↑(nLx a).toNat : Int))
    (V.need (0 < 1 ∧ 0 + x_5.k.toNat < (nLx a).toNat)
    (V.need (0 < 1 ∧ 0 + x_5.k.toNat < (nLx a).toNat)
    (V.br (if 0 = 0 ∧ 0 + x_5.k.toNat = 0 + x_2.toNat then (if 0 + x_2.toNat = 0 + x_2.toNat ∧ 0 = 0 then Int.ofNat 5 else if 0 + x_2.toNat = 0 + x_2.toNat then numAt [SC.ki IntKind.i64 (Int.ofNat 0)] 0 else Int.ofNat 0) == Int.ofNat 1 else x.ho (0 + x_5.k.toNat))
    (nN [(3, .lt2 0 1 0 1), (1, .eqI 1 1), (1, .le 1 1), (1, .pf (∀ (i : Nat), i < 1 → 1 ≤ 1) (by intros; exact Nat.le_refl _)), qE x_3.ct, (1, .le 1 1), (1, .pf (∀ (i : Nat), i < 1 → 16 ≤ 16) (by intros; exact Nat.le_refl _)), (1, .pf (∀ (i e : Nat), i < 1 ∧ e < 16 → x_3.g e = x_3.g e) (by intros; rfl)), qX (x_3.val 16 (Int.ofNat 1))]
    (V.any Int (fun (v : Int) => v = x_3.val 16 (Int.ofNat 1)) fun (x_6 : Int) => V.br (x_6 != IntKind.u64.wrap (IntKind.i64.wrap (x_5.k + Int.ofNat 1)))
    (V.bad 420)
    (V.need (I2 (XLx.mk x.i x_3 (fun (e : Nat) => if 0 = 0 ∧ e = 0 + x_2.toNat then false else if 0 = 0 ∧ e = 0 + x_2.toNat then true else x.p e) fun (e : Nat) => if 0 = 0 ∧ e = 0 + x_2.toNat then (if 0 + x_2.toNat = 0 + x_2.toNat ∧ 0 = 0 then Int.ofNat 5 else if 0 + x_2.toNat = 0 + x_2.toNat then numAt [SC.ki IntKind.i64 (Int.ofNat 0)] 0 else Int.ofNat 0) == Int.ofNat 1 else x.ho e) (XLy.mk (IntKind.i64.wrap (x_5.k + Int.ofNat 1)) (IntKind.i64.wrap (x_5.h + Int.ofNat 1))))
    (V.need ((nLx a - IntKind.i64.wrap (x_5.k + Int.ofNat 1)).toNat < (nLx a - x_5.k).toNat)
    (nN [qE (IntKind.i64.wrap (x_5.k + Int.ofNat 1)), qE (IntKind.i64.wrap (x_5.h + Int.ofNat 1))] V.ok)))))
    (V.need (I2 (XLx.mk x.i x_3 (fun (e : Nat) => if 0 = 0 ∧ e = 0 + x_2.toNat then false else if 0 = 0 ∧ e = 0 + x_2.toNat then true else x.p e) fun (e : Nat) => if 0 = 0 ∧ e = 0 + x_2.toNat then (if 0 + x_2.toNat = 0 + x_2.toNat ∧ 0 = 0 then Int.ofNat 5 else if 0 + x_2.toNat = 0 + x_2.toNat then numAt [SC.ki IntKind.i64 (Int.ofNat 0)] 0 else Int.ofNat 0) == Int.ofNat 1 else x.ho e) (XLy.mk (IntKind.i64.wrap (x_5.k + Int.ofNat 1)) x_5.h))
    (V.need ((nLx a - IntKind.i64.wrap (x_5.k + Int.ofNat 1)).toNat < (nLx a - x_5.k).toNat)
    (nN [qE (IntKind.i64.wrap (x_5.k + Int.ofNat 1)), qE x_5.h] V.ok)))))))
    (V.br (decide (x_5.h > Int.ofNat 1))
    (V.bad 420)
    (V.br (x_5.h == Int.ofNat 0)
    (nN [(3, .lt2 0 1 0 1), (1, .eqI 1 1), qE x_3.ct, (1, .le 1 1), (1, .le2 16 16 16 16), (1, .pf (∀ (i e : Nat), i = 0 ∧ e < 16 → x_3.g e = x_3.g e) (by intros; rfl)), qX (x_3.val 16 (Int.ofNat 1))]
    (V.any Int (fun (v : Int) => v = x_3.val 16 (Int.ofNat 1)) fun (x_6 : Int) => V.br (x_6 != Int.ofNat 0)
    (V.bad 420)
    (V.need (I1 (XLx.mk (IntKind.i64.wrap (x.i + Int.ofNat 1)) x_3 (fun (e : Nat) => if 0 = 0 ∧ e = 0 + x_2.toNat then false else if 0 = 0 ∧ e = 0 + x_2.toNat then true else x.p e) fun (e : Nat) => if 0 = 0 ∧ e = 0 + x_2.toNat then (if 0 + x_2.toNat = 0 + x_2.toNat ∧ 0 = 0 then Int.ofNat 5 else if 0 + x_2.toNat = 0 + x_2.toNat then numAt [SC.ki IntKind.i64 (Int.ofNat 0)] 0 else Int.ofNat 0) == Int.ofNat 1 else x.ho e))
    (V.need (((↑lg : Int) - IntKind.i64.wrap (x.i + Int.ofNat 1)).toNat < ((↑lg : Int) - x.i).toNat)
    (nN [qE (IntKind.i64.wrap (x.i + Int.ofNat 1)), qE x_3.lk, qE x_3.lc, qE x_3.lo, qE x_3.ln, qE x_3.ct, (1, .eq 16 16), (1, .le 16 16), qF 16 x_3.g, qE ((nLx a).toNat)]
    (V.need ((nLx a).toNat ≤ (nLx a).toNat)
    (V.need (∀ (e : Nat), e < (nLx a).toNat → (if 0 = 0 ∧ e = 0 + x_2.toNat then false else if 0 = 0 ∧ e = 0 + x_2.toNat then true else x.p e) = if 0 = 0 ∧ e = 0 + x_2.toNat then false else if 0 = 0 ∧ e = 0 + x_2.toNat then true else x.p e)
    (nN [(1, .pf (∀ (i e : Nat), (i = 0 ∧ e < (nLx a).toNat) ∧ (if 0 = 0 ∧ e = 0 + x_2.toNat then false else if 0 = 0 ∧ e = 0 + x_2.toNat then true else x.p e) = true → e = e) (by intros; rfl)), qE ((nLx a).toNat)]
    (V.need ((nLx a).toNat ≤ (nLx a).toNat)
    (V.need (∀ (e : Nat), e < (nLx a).toNat → (if 0 = 0 ∧ e = 0 + x_2.toNat then (if 0 + x_2.toNat = 0 + x_2.toNat ∧ 0 = 0 then Int.ofNat 5 else if 0 + x_2.toNat = 0 + x_2.toNat then numAt [SC.ki IntKind.i64 (Int.ofNat 0)] 0 else Int.ofNat 0) == Int.ofNat 1 else x.ho e) = if 0 = 0 ∧ e = 0 + x_2.toNat then (if 0 + x_2.toNat = 0 + x_2.toNat ∧ 0 = 0 then Int.ofNat 5 else if 0 + x_2.toNat = 0 + x_2.toNat then numAt [SC.ki IntKind.i64 (Int.ofNat 0)] 0 else Int.ofNat 0) == Int.ofNat 1 else x.ho e)
    (nN [qE ((nLx a).toNat)]
    (V.need ((nLx a).toNat ≤ (nLx a).toNat)
    (V.need (∀ (e : Nat), e < (nLx a).toNat → (if 0 = 0 ∧ e = 0 + x_2.toNat then false else false) = false)
    (V.need (∀ (i : Nat), (if i = 0 + x_2.toNat then 1 else capB (x.p i)) = capB (if 0 = 0 ∧ i = 0 + x_2.toNat then false else if 0 = 0 ∧ i = 0 + x_2.toNat then true else x.p i) ∨ capB (if 0 = 0 ∧ i = 0 + x_2.toNat then false else if 0 = 0 ∧ i = 0 + x_2.toNat then true else x.p i) = 0)
    (V.need (∀ (i : Nat), capB (if 0 = 0 ∧ i = 0 + x_2.toNat then false else if 0 = 0 ∧ i = 0 + x_2.toNat then true else x.p i) ≤ capB (if 0 = 0 ∧ i = 0 + x_2.toNat then false else if 0 = 0 ∧ i = 0 + x_2.toNat then true else x.p i) ∧ capB (if 0 = 0 ∧ i = 0 + x_2.toNat then false else if 0 = 0 ∧ i = 0 + x_2.toNat then true else x.p i) ≤ if i = 0 + x_2.toNat then 1 else capB (x.p i))
    (V.need (∀ (i e : Nat), e < capB (if 0 = 0 ∧ i = 0 + x_2.toNat then false else if 0 = 0 ∧ i = 0 + x_2.toNat then true else x.p i) → (if i = 0 + x_2.toNat ∧ e = 0 then true else if i = 0 + x_2.toNat then boolAt [SC.kb false] e else false) = false)
    (V.need (∀ (i e : Nat), e < capB (if 0 = 0 ∧ i = 0 + x_2.toNat then false else if 0 = 0 ∧ i = 0 + x_2.toNat then true else x.p i) → (if i = 0 + x_2.toNat ∧ e = 0 then Int.ofNat 5 else if i = 0 + x_2.toNat then numAt [SC.ki IntKind.i64 (Int.ofNat 0)] e else Int.ofNat 0) = Int.ofNat 0)
    (V.need (∀ (i e : Nat), e < capB (if 0 = 0 ∧ i = 0 + x_2.toNat then false else if 0 = 0 ∧ i = 0 + x_2.toNat then true else x.p i) → (if i = 0 + x_2.toNat ∧ e = 0 then Int.ofNat 0 else if i = 0 + x_2.toNat then numAt [SC.ki IntKind.i64 (Int.ofNat 0)] e else Int.ofNat 0) = Int.ofNat 0)
    (V.need (∀ (i e : Nat), e < capB (if 0 = 0 ∧ i = 0 + x_2.toNat then false else if 0 = 0 ∧ i = 0 + x_2.toNat then true else x.p i) → (if i = 0 + x_2.toNat then numAt [SC.iv IntKind.i64 x_2] e else (↑i : Int)) = (↑i : Int))
    (V.need (∀ (i e : Nat), e < capB (if 0 = 0 ∧ i = 0 + x_2.toNat then false else if 0 = 0 ∧ i = 0 + x_2.toNat then true else x.p i) → (if i = 0 + x_2.toNat then boolAt [SC.kb true] e else false) = false) V.ok))))))))))))))))))))
    (V.need (I1 (XLx.mk (IntKind.i64.wrap (x.i + Int.ofNat 1)) x_3 (fun (e : Nat) => if 0 = 0 ∧ e = 0 + x_2.toNat then false else if 0 = 0 ∧ e = 0 + x_2.toNat then true else x.p e) fun (e : Nat) => if 0 = 0 ∧ e = 0 + x_2.toNat then (if 0 + x_2.toNat = 0 + x_2.toNat ∧ 0 = 0 then Int.ofNat 5 else if 0 + x_2.toNat = 0 + x_2.toNat then numAt [SC.ki IntKind.i64 (Int.ofNat 0)] 0 else Int.ofNat 0) == Int.ofNat 1 else x.ho e))
    (V.need (((↑lg : Int) - IntKind.i64.wrap (x.i + Int.ofNat 1)).toNat < ((↑lg : Int) - x.i).toNat)
    (nN [qE (IntKind.i64.wrap (x.i + Int.ofNat 1)), qE x_3.lk, qE x_3.lc, qE x_3.lo, qE x_3.ln, qE x_3.ct, (1, .eq 16 16), (1, .le 16 16), qF 16 x_3.g, qE ((nLx a).toNat)]
    (V.need ((nLx a).toNat ≤ (nLx a).toNat)
    (V.need (∀ (e : Nat), e < (nLx a).toNat → (if 0 = 0 ∧ e = 0 + x_2.toNat then false else if 0 = 0 ∧ e = 0 + x_2.toNat then true else x.p e) = if 0 = 0 ∧ e = 0 + x_2.toNat then false else if 0 = 0 ∧ e = 0 + x_2.toNat then true else x.p e)
    (nN [(1, .pf (∀ (i e : Nat), (i = 0 ∧ e < (nLx a).toNat) ∧ (if 0 = 0 ∧ e = 0 + x_2.toNat then false else if 0 = 0 ∧ e = 0 + x_2.toNat then true else x.p e) = true → e = e) (by intros; rfl)), qE ((nLx a).toNat)]
    (V.need ((nLx a).toNat ≤ (nLx a).toNat)
    (V.need (∀ (e : Nat), e < (nLx a).toNat → (if 0 = 0 ∧ e = 0 + x_2.toNat then (if 0 + x_2.toNat = 0 + x_2.toNat ∧ 0 = 0 then Int.ofNat 5 else if 0 + x_2.toNat = 0 + x_2.toNat then numAt [SC.ki IntKind.i64 (Int.ofNat 0)] 0 else Int.ofNat 0) == Int.ofNat 1 else x.ho e) = if 0 = 0 ∧ e = 0 + x_2.toNat then (if 0 + x_2.toNat = 0 + x_2.toNat ∧ 0 = 0 then Int.ofNat 5 else if 0 + x_2.toNat = 0 + x_2.toNat then numAt [SC.ki IntKind.i64 (Int.ofNat 0)] 0 else Int.ofNat 0) == Int.ofNat 1 else x.ho e)
    (nN [qE ((nLx a).toNat)]
    (V.need ((nLx a).toNat ≤ (nLx a).toNat)
    (V.need (∀ (e : Nat), e < (nLx a).toNat → (if 0 = 0 ∧ e = 0 + x_2.toNat then false else false) = false)
    (V.need (∀ (i : Nat), (if i = 0 + x_2.toNat then 1 else capB (x.p i)) = capB (if 0 = 0 ∧ i = 0 + x_2.toNat then false else if 0 = 0 ∧ i = 0 + x_2.toNat then true else x.p i) ∨ capB (if 0 = 0 ∧ i = 0 + x_2.toNat then false else if 0 = 0 ∧ i = 0 + x_2.toNat then true else x.p i) = 0)
    (V.need (∀ (i : Nat), capB (if 0 = 0 ∧ i = 0 + x_2.toNat then false else if 0 = 0 ∧ i = 0 + x_2.toNat then true else x.p i) ≤ capB (if 0 = 0 ∧ i = 0 + x_2.toNat then false else if 0 = 0 ∧ i = 0 + x_2.toNat then true else x.p i) ∧ capB (if 0 = 0 ∧ i = 0 + x_2.toNat then false else if 0 = 0 ∧ i = 0 + x_2.toNat then true else x.p i) ≤ if i = 0 + x_2.toNat then 1 else capB (x.p i))
    (V.need (∀ (i e : Nat), e < capB (if 0 = 0 ∧ i = 0 + x_2.toNat then false else if 0 = 0 ∧ i = 0 + x_2.toNat then true else x.p i) → (if i = 0 + x_2.toNat ∧ e = 0 then true else if i = 0 + x_2.toNat then boolAt [SC.kb false] e else false) = false)
    (V.need (∀ (i e : Nat), e < capB (if 0 = 0 ∧ i = 0 + x_2.toNat then false else if 0 = 0 ∧ i = 0 + x_2.toNat then true else x.p i) → (if i = 0 + x_2.toNat ∧ e = 0 then Int.ofNat 5 else if i = 0 + x_2.toNat then numAt [SC.ki IntKind.i64 (Int.ofNat 0)] e else Int.ofNat 0) = Int.ofNat 0)
    (V.need (∀ (i e : Nat), e < capB (if 0 = 0 ∧ i = 0 + x_2.toNat then false else if 0 = 0 ∧ i = 0 + x_2.toNat then true else x.p i) → (if i = 0 + x_2.toNat ∧ e = 0 then Int.ofNat 0 else if i = 0 + x_2.toNat then numAt [SC.ki IntKind.i64 (Int.ofNat 0)] e else Int.ofNat 0) = Int.ofNat 0)
    (V.need (∀ (i e : Nat), e < capB (if 0 = 0 ∧ i = 0 + x_2.toNat then false else if 0 = 0 ∧ i = 0 + x_2.toNat then true else x.p i) → (if i = 0 + x_2.toNat then numAt [SC.iv IntKind.i64 x_2] e else (↑i : Int)) = (↑i : Int))
    (V.need (∀ (i e : Nat), e < capB (if 0 = 0 ∧ i = 0 + x_2.toNat then false else if 0 = 0 ∧ i = 0 + x_2.toNat then true else x.p i) → (if i = 0 + x_2.toNat then boolAt [SC.kb true] e else false) = false) V.ok))))))))))))))))))))))))))))))))))))))))))))))))))))))))))))))))))))))))))))))))))))))))))))))))))))))))) V.ok))))))))))))))))))))))))))))) := by kernel_rfl


end Go.Proofs.Ytomaagmleafjeaa.Md

/- LockExclusive: the conditions hold; the walk. -/
set_option linter.unusedVariables false
set_option linter.unusedSimpArgs false
set_option maxRecDepth 100000
namespace Go.Proofs.Ytomaagmleafjeaa.Md
open Go Go.RowKit Sx Cn Dc Ck Vc
/-- Who holds the lock, and what its cell says. -/
def LK (n : Nat) (c : Int) (ho : Nat → Bool) : Prop := ((∀ e, e < n → ho e = false) ∧ c = 0) ∨ ∃ h, h < n ∧ (∀ e, e < n → ho e = decide (e = h)) ∧ c = h + 1
theorem LK.same {n : Nat} {c c' : Int} {ho ho' : Nat → Bool} (h : LK n c ho) (hc : c' = c) (e : ∀ k, k < n → ho' k = ho k) : LK n c' ho' := by
  subst hc
  rcases h with ⟨h1, h2⟩ | ⟨m, h1, h2, h3⟩
  · exact .inl ⟨fun k hk => (e k hk).trans (h1 k hk), h2⟩
  · exact .inr ⟨m, h1, fun k hk => (e k hk).trans (h2 k hk), h3⟩
theorem LK.got {n m : Nat} {c c' : Int} {ho ho' : Nat → Bool} (h : LK n c ho) (hm : m < n) (hc : c = 0) (hc' : c' = m + 1) (e : ∀ k, k < n → ho' k = if k = m then true else ho k) : LK n c' ho' := by
  rcases h with ⟨h1, h2⟩ | ⟨j, h1, h2, h3⟩
  · refine .inr ⟨m, hm, fun k hk => ?_, hc'⟩
    rw [e k hk]
    by_cases q : k = m
    · rw [if_pos q, decide_eq_true q]
    · rw [if_neg q, h1 k hk, decide_eq_false q]
  · omega
theorem LK.rel {n m : Nat} {c c' : Int} {ho ho' : Nat → Bool} (h : LK n c ho) (hm : m < n) (hh : ho m = true) (hc' : c' = 0) (e : ∀ k, k < n → ho' k = if k = m then false else ho k) : LK n c' ho' := by
  rcases h with ⟨h1, h2⟩ | ⟨j, h1, h2, h3⟩
  · rw [h1 m hm] at hh
    cases hh
  · refine .inl ⟨fun k hk => ?_, hc'⟩
    rw [e k hk]
    by_cases q : k = m
    · rw [if_pos q]
    · rw [if_neg q, h2 k hk]
      rw [h2 m hm] at hh
      have : m = j := of_decide_eq_true hh
      exact decide_eq_false (by omega)
theorem LK.no {n m : Nat} {c c' : Int} {ho ho' : Nat → Bool} (h : LK n c ho) (hm : m < n) (hh : ho m = false) (hc' : c' = c) (e : ∀ k, k < n → ho' k = if k = m then false else ho k) : LK n c' ho' :=
  h.same hc' fun k hk => by
    rw [e k hk]
    by_cases q : k = m
    · rw [if_pos q, q, hh]
    · rw [if_neg q]
def okLx (n lg : Nat) (x : XLx) : Prop := 0 ≤ x.i ∧ x.i ≤ lg ∧ (∀ e, e < n → x.p e = true → x.ho e = false) ∧ LK n (x.m.g 1) x.ho
def okLy (n lg : Nat) (x : XLx) (y : XLy) : Prop := (0 ≤ x.i ∧ x.i ≤ lg ∧ (∀ e, e < n → x.p e = true → x.ho e = false)) ∧ (0 ≤ y.k ∧ y.k ≤ n) ∧
  (((∀ e, e < n → x.ho e = false) ∧ x.m.g 1 = 0 ∧ y.h = 0) ∨ ∃ h : Nat, h < n ∧ (∀ e, e < n → x.ho e = decide (e = h)) ∧ x.m.g 1 = h + 1 ∧ y.h = if (h : Int) < y.k then 1 else 0)
theorem okLy_0 {n lg : Nat} {x : XLx} (h1 : 0 ≤ x.i ∧ x.i ≤ lg) (h2 : ∀ e, e < n → x.p e = true → x.ho e = false) (h : LK n (x.m.g 1) x.ho) : okLy n lg x ⟨0, 0⟩ := by
  refine ⟨⟨h1.1, h1.2, h2⟩, ⟨Int.le_refl 0, Int.natCast_nonneg _⟩, ?_⟩
  rcases h with ⟨q1, q2⟩ | ⟨m, q1, q2, q3⟩
  · exact .inl ⟨q1, q2, rfl⟩
  · exact .inr ⟨m, q1, q2, q3, by rw [if_neg (by dsimp only; omega)]⟩
theorem okLy_t {n lg : Nat} {x : XLx} {k h : Int} (hy : okLy n lg x ⟨k, h⟩) (hk : k < n) (c : x.ho k.toNat = true) : x.m.g 1 = k + 1 ∧ okLy n lg x ⟨k + 1, h + 1⟩ := by
  obtain ⟨h1, ⟨h2, h3⟩, hy⟩ := hy
  dsimp only at h2 h3 hy
  rcases hy with ⟨q1, -, -⟩ | ⟨m, q1, q2, q3, q4⟩
  · rw [q1 k.toNat (by omega)] at c
    cases c
  · rw [q2 k.toNat (by omega)] at c
    have c : k.toNat = m := of_decide_eq_true c
    refine ⟨by omega, h1, ⟨by show 0 ≤ k + 1; omega, by show k + 1 ≤ n; omega⟩, .inr ⟨m, q1, q2, q3, ?_⟩⟩
    show h + 1 = if (m : Int) < k + 1 then 1 else 0
    rw [if_neg (by omega)] at q4
    rw [if_pos (by omega), q4]
    rfl
theorem okLy_f {n lg : Nat} {x : XLx} {k h : Int} (hy : okLy n lg x ⟨k, h⟩) (hk : k < n) (c : x.ho k.toNat = false) : okLy n lg x ⟨k + 1, h⟩ := by
  obtain ⟨h1, ⟨h2, h3⟩, hy⟩ := hy
  dsimp only at h2 h3 hy
  refine ⟨h1, ⟨by show 0 ≤ k + 1; omega, by show k + 1 ≤ n; omega⟩, ?_⟩
  rcases hy with hy | ⟨m, q1, q2, q3, q4⟩
  · exact .inl hy
  · rw [q2 k.toNat (by omega)] at c
    have c : ¬ k.toNat = m := of_decide_eq_false c
    refine .inr ⟨m, q1, q2, q3, ?_⟩
    show h = if (m : Int) < k + 1 then 1 else 0
    rw [q4]
    by_cases d : (m : Int) < k
    · rw [if_pos d, if_pos (by omega)]
    · rw [if_neg d, if_neg (by omega)]
theorem okLy_e {n lg : Nat} {x : XLx} {k h : Int} (hy : okLy n lg x ⟨k, h⟩) (hk : ¬ k < n) : h ≤ 1 ∧ (h = 0 → x.m.g 1 = 0) ∧ LK n (x.m.g 1) x.ho ∧ (0 ≤ x.i ∧ x.i ≤ lg) ∧ ∀ e, e < n → x.p e = true → x.ho e = false := by
  obtain ⟨h1, ⟨h2, h3⟩, hy⟩ := hy
  dsimp only at h2 h3 hy
  rcases hy with ⟨q1, q2, q3⟩ | ⟨m, q1, q2, q3, q4⟩
  · exact ⟨by omega, fun _ => q2, .inl ⟨q1, q2⟩, ⟨h1.1, h1.2.1⟩, h1.2.2⟩
  · rw [if_pos (by omega)] at q4
    exact ⟨by omega, fun q => by omega, .inr ⟨m, q1, q2, q3⟩, ⟨h1.1, h1.2.1⟩, h1.2.2⟩
set_option maxHeartbeats 16000000 in
theorem vhLx {a : Int} {g : Nat → Int} {lg cg : Nat} (ha : 0 ≤ a ∧ a ≤ 255) : VHolds (verLx a g lg cg (okLx (nLx a).toNat lg) (okLy (nLx a).toNat lg)) := by
  refine VHolds.pr (verLx_eq ..) ?_
  have hn : 2 ≤ nLx a ∧ nLx a ≤ 6 := by
    have h1 := Int.tmod_nonneg 5 ha.1
    have h2 := Int.tmod_lt_of_pos a (show (0 : Int) < 5 by decide)
    have h3 : IntKind.i64.wrap (a.tmod (Int.ofNat 5)) = a.tmod 5 := (w64 (by omega) : IntKind.i64.wrap (a.tmod 5) = a.tmod 5)
    have h4 : IntKind.i64.wrap (Int.ofNat 2 + a.tmod 5) = Int.ofNat 2 + a.tmod 5 := w64 (by simp only [Int.ofNat_eq_natCast]; omega)
    unfold nLx
    rw [h3, h4]
    simp only [Int.ofNat_eq_natCast]
    omega
  generalize nLx a = N at *
  refine V.brI (fun _ => V.okI) fun h400 => ?_
  have h400 : ¬ (lg : Int) > 400 := of_decide_eq_false h400
  ((repeat' first | with_reducible refine nN_h rfl ?_ | with_reducible refine V.brT ?_ | with_reducible refine V.brF ?_ | with_reducible refine V.needI ?_ ?_) <;> (try first | with_reducible exact V.okI | exact rfl | exact ⟨Nat.le_refl _, rfl⟩ | exact Nat.le_refl _ | assumption | omega | trivial | decide | (intros; rfl) | (intros; trivial)))
  · exact ⟨u8_0, by decide⟩
  · exact ⟨(1, 0, fun _ => 0), Nat.le_refl _⟩
  refine V.anyI fun x0 h0 => ?_
  ((repeat' first | with_reducible refine nN_h rfl ?_ | with_reducible refine V.brT ?_ | with_reducible refine V.brF ?_ | with_reducible refine V.needI ?_ ?_) <;> (try first | with_reducible exact V.okI | exact rfl | exact ⟨Nat.le_refl _, rfl⟩ | exact Nat.le_refl _ | assumption | omega | trivial | decide | (intros; rfl) | (intros; trivial)))
  all_goals try exact ⟨Nat.le_refl _, h0⟩
  all_goals try exact ⟨Nat.zero_le _, Nat.zero_le _⟩
  all_goals try exact fun _ _ => ⟨Nat.zero_le _, Nat.zero_le _⟩
  · exact err9 (by unfold okN; dsimp only; simp only [Int.ofNat_eq_natCast]; omega) rfl rfl rfl
  · exact ⟨(_, _), is_cl _, Nat.le_refl _⟩
  refine V.anyI fun d hd => ?_
  ((repeat' first | with_reducible refine nN_h rfl ?_ | with_reducible refine V.brT ?_ | with_reducible refine V.brF ?_ | with_reducible refine V.needI ?_ ?_) <;> (try first | with_reducible exact V.okI | exact rfl | exact ⟨Nat.le_refl _, rfl⟩ | exact Nat.le_refl _ | assumption | omega | trivial | decide | (intros; rfl) | (intros; trivial)))
  all_goals try exact ⟨_, rfl⟩
  refine V.anyI fun q hq => ?_
  ((repeat' first | with_reducible refine nN_h rfl ?_ | with_reducible refine V.brT ?_ | with_reducible refine V.brF ?_ | with_reducible refine V.needI ?_ ?_) <;> (try first | with_reducible exact V.okI | exact rfl | exact ⟨Nat.le_refl _, rfl⟩ | exact Nat.le_refl _ | assumption | omega | trivial | decide | (intros; rfl) | (intros; trivial)))
  · simp only [Int.ofNat_eq_natCast]; omega
  · simp only [Int.ofNat_eq_natCast]; omega
  · simp only [Int.ofNat_eq_natCast]; omega
  · exact ⟨Int.le_refl 0, Int.natCast_nonneg _, fun e _ h => (by cases h), .inl ⟨fun _ _ => rfl, rfl⟩⟩
  refine V.anyI fun x hx => ?_
  obtain ⟨i1, i2, i3, i4⟩ := hx
  have ei : x.i < lg → IntKind.i64.wrap (x.i + Int.ofNat 1) = x.i + 1 := fun _ => w64 (by simp only [Int.ofNat_eq_natCast]; omega)
  refine V.brI (fun hi => ?_) fun _ => V.okI
  have hi : x.i < lg := of_decide_eq_true hi
  have ei := ei hi
  have hμi : ((lg : Int) - (x.i + 1)).toNat < ((lg : Int) - x.i).toNat := by omega
  simp only [ei]
  ((repeat' first | with_reducible refine nN_h rfl ?_ | with_reducible refine V.brT ?_ | with_reducible refine V.brF ?_ | with_reducible refine V.needI ?_ ?_) <;> (try first | with_reducible exact V.okI | exact rfl | exact ⟨Nat.le_refl _, rfl⟩ | exact Nat.le_refl _ | assumption | omega | trivial | decide | (intros; rfl) | (intros; trivial)))
  all_goals try exact ⟨i1, hi⟩
  all_goals try exact ⟨Nat.zero_lt_one, by omega⟩
  · show N ≤ 9223372036854775807
    omega
  refine V.anyI fun r hr => ?_
  have hr2 := dr_bd (a := g (0 + x.i.toNat)) (n := N) (by omega)
  rw [← hr] at hr2
  obtain ⟨M, rfl⟩ : ∃ M : Nat, r = M := ⟨r.toNat, by omega⟩
  have hM : M < N.toNat := by omega
  have eM : IntKind.i64.wrap ((M : Int) + Int.ofNat 1) = (M : Int) + 1 := w64 (by simp only [Int.ofNat_eq_natCast]; omega)
  have eU : IntKind.u64.wrap ((M : Int) + 1) = (M : Int) + 1 := wu64 (by omega)
  have hv1 : x.m.val 16 (Int.ofNat 1) = x.m.g 1 := Mm.val_eq (by decide) (by decide)
  have hh1 : x.m.hit 16 (Int.ofNat 1) (Int.ofNat 0) = decide (x.m.g 1 = 0) := Mm.hit_val (by decide) (by decide)
  have hr3 : Int.ofNat 0 ≤ (M : Int) ∧ (M : Int) < (N.toNat : Int) := ⟨Int.natCast_nonneg _, by omega⟩
  have hacc : ∀ (kd : Int) (v : Int), (x.m.acc 16 kd (Int.ofNat 1) v).g 1 = v := fun kd v => Mm.acc_eq (by decide) (by decide) rfl
  have hacc' : ∀ (kd : Int) (v : Int), (x.m.acc 16 kd 1 v).g 1 = v := fun kd v => Mm.acc_eq (by decide) (by decide) rfl
  have hna : IntKind.u64.wrap (IntKind.i64.wrap (numAt [SC.iv IntKind.i64 (M : Int)] 0 + 1)) = (M : Int) + 1 := by
    show IntKind.u64.wrap (IntKind.i64.wrap ((M : Int) + 1)) = _
    rw [show IntKind.i64.wrap ((M : Int) + 1) = (M : Int) + 1 from eM, eU]
  simp only [Int.toNat_natCast, Nat.zero_add, eM, eU, hv1, hh1]
  ((repeat' first | with_reducible refine nN_h rfl ?_ | with_reducible refine V.brT ?_ | with_reducible refine V.brF ?_ | with_reducible refine V.needI ?_ ?_) <;> (try first | with_reducible exact V.okI | exact rfl | exact ⟨Nat.le_refl _, rfl⟩ | exact Nat.le_refl _ | assumption | omega | trivial | decide | (intros; rfl) | (intros; trivial)))
  refine V.brI (fun hp => ?_) fun hp => ?_
  · have hcap : 0 < capB (x.p M) := by rw [hp]; decide
    have hho := i3 M hM hp
    ((repeat' first | with_reducible refine nN_h rfl ?_ | with_reducible refine V.brT ?_ | with_reducible refine V.brF ?_ | with_reducible refine V.needI ?_ ?_) <;> (try first | with_reducible exact V.okI | exact rfl | exact ⟨Nat.le_refl _, rfl⟩ | exact Nat.le_refl _ | assumption | omega | trivial | decide | (intros; rfl) | (intros; trivial)))
    refine V.anyI fun m hm => ?_
    ((repeat' first | with_reducible refine nN_h rfl ?_ | with_reducible refine V.brT ?_ | with_reducible refine V.brF ?_ | with_reducible refine V.needI ?_ ?_) <;> (try first | with_reducible exact V.okI | exact rfl | exact ⟨Nat.le_refl _, rfl⟩ | exact Nat.le_refl _ | assumption | omega | trivial | decide | (intros; rfl) | (intros; trivial)))
    refine V.anyI fun b hb => ?_
    refine V.brI (fun hc => ?_) fun hc => ?_
    · have hc : x.m.g 1 = 0 := of_decide_eq_true (hb.symm.trans hc)
      ((repeat' first | with_reducible refine nN_h rfl ?_ | with_reducible refine V.brT ?_ | with_reducible refine V.brF ?_ | with_reducible refine V.needI ?_ ?_) <;> (try first | with_reducible exact V.okI | exact rfl | exact ⟨Nat.le_refl _, rfl⟩ | exact Nat.le_refl _ | assumption | omega | trivial | decide | (intros; rfl) | (intros; trivial)))
      · exact okLy_0 ⟨i1, i2⟩ (by intro e he hpe; by_cases q : e = M <;> simp [q] at hpe ⊢ <;> first | exact i3 e he hpe | exact hho | (rw [q]; exact hho) | skip) (i4.got hM hc (by rw [hm]; simp [hacc', casV, hc, hna]) (by intro k hk; by_cases q : k = M <;> simp [q]))
      refine V.anyI fun y hy => ?_
      obtain ⟨yk, yh⟩ := y
      have hyk := hy.2.1
      have hyh : 0 ≤ yh ∧ yh ≤ 1 := by
        rcases hy.2.2 with ⟨-, -, q⟩ | ⟨u, -, -, -, q⟩
        · have q : yh = 0 := q
          omega
        · have q : yh = if (u : Int) < yk then 1 else 0 := q
          split at q <;> omega
      dsimp only at hyk ⊢
      have ek : IntKind.i64.wrap (yk + Int.ofNat 1) = yk + 1 := w64 (by simp only [Int.ofNat_eq_natCast]; omega)
      have eh : IntKind.i64.wrap (yh + Int.ofNat 1) = yh + 1 := w64 (by simp only [Int.ofNat_eq_natCast]; omega)
      have eu : IntKind.u64.wrap (yk + 1) = yk + 1 := wu64 (by omega)
      simp only [ek, eh, eu]
      refine V.brI (fun c => ?_) fun c => ?_
      · have c : yk < N := of_decide_eq_true c
        have hμ : (N - (yk + 1)).toNat < (N - yk).toNat := by omega
        ((repeat' first | with_reducible refine nN_h rfl ?_ | with_reducible refine V.brT ?_ | with_reducible refine V.brF ?_ | with_reducible refine V.needI ?_ ?_) <;> (try first | with_reducible exact V.okI | exact rfl | exact ⟨Nat.le_refl _, rfl⟩ | exact Nat.le_refl _ | assumption | omega | trivial | decide | (intros; rfl) | (intros; trivial)))
        all_goals try exact ⟨hyk.1, by omega⟩
        all_goals try exact ⟨Nat.zero_lt_one, by omega⟩
        refine V.brI (fun cb => ?_) fun cb => ?_
        · obtain ⟨z1, z2⟩ := okLy_t hy (by omega) cb
          ((repeat' first | with_reducible refine nN_h rfl ?_ | with_reducible refine V.brT ?_ | with_reducible refine V.brF ?_ | with_reducible refine V.needI ?_ ?_) <;> (try first | with_reducible exact V.okI | exact rfl | exact ⟨Nat.le_refl _, rfl⟩ | exact Nat.le_refl _ | assumption | omega | trivial | decide | (intros; rfl) | (intros; trivial)))
          refine V.anyI fun v hv => ?_
          refine V.brI (fun q => (cne ((hv.trans (Mm.val_eq (by decide) (by decide))).trans z1) q).elim) fun _ => ?_
          ((repeat' first | with_reducible refine nN_h rfl ?_ | with_reducible refine V.brT ?_ | with_reducible refine V.brF ?_ | with_reducible refine V.needI ?_ ?_) <;> (try first | with_reducible exact V.okI | exact rfl | exact ⟨Nat.le_refl _, rfl⟩ | exact Nat.le_refl _ | assumption | omega | trivial | decide | (intros; rfl) | (intros; trivial)))
        · have z2 := okLy_f hy (by omega) cb
          ((repeat' first | with_reducible refine nN_h rfl ?_ | with_reducible refine V.brT ?_ | with_reducible refine V.brF ?_ | with_reducible refine V.needI ?_ ?_) <;> (try first | with_reducible exact V.okI | exact rfl | exact ⟨Nat.le_refl _, rfl⟩ | exact Nat.le_refl _ | assumption | omega | trivial | decide | (intros; rfl) | (intros; trivial)))
      · have c : ¬ yk < N := of_decide_eq_false c
        obtain ⟨z1, z2, z3, z4, z5⟩ := okLy_e hy (by omega)
        refine V.brI (fun q => (dgt (by show ¬ yh > (1 : Int); omega) q).elim) fun _ => ?_
        refine V.brI (fun cz => ?_) fun cz => ?_
        · have cz : yh = 0 := eq_of_beq cz
          ((repeat' first | with_reducible refine nN_h rfl ?_ | with_reducible refine V.brT ?_ | with_reducible refine V.brF ?_ | with_reducible refine V.needI ?_ ?_) <;> (try first | with_reducible exact V.okI | exact rfl | exact ⟨Nat.le_refl _, rfl⟩ | exact Nat.le_refl _ | assumption | omega | trivial | decide | (intros; rfl) | (intros; trivial)))
          refine V.anyI fun v hv => ?_
          refine V.brI (fun q => (cne ((hv.trans (Mm.val_eq (by decide) (by decide))).trans (z2 cz)) q).elim) fun _ => ?_
          ((repeat' first | with_reducible refine nN_h rfl ?_ | with_reducible refine V.brT ?_ | with_reducible refine V.brF ?_ | with_reducible refine V.needI ?_ ?_) <;> (try first | with_reducible exact V.okI | exact rfl | exact ⟨Nat.le_refl _, rfl⟩ | exact Nat.le_refl _ | assumption | omega | trivial | decide | (intros; rfl) | (intros; trivial)))
          all_goals first
            | exact ⟨by show 0 ≤ x.i + 1; omega, by show x.i + 1 ≤ (lg : Int); omega, z5, z3⟩
            | (intro e he; by_cases q : e = M <;> simp [q, *]; done)
            | (intro e; by_cases q : e = M <;> simp [q, capB, *]; done)
            | (intro i e he; by_cases q : i = M <;> simp_all [capB]; done) | (intro i e he; by_cases q : i = M; { have he : e < 1 := (by simpa [q, capB] using he); have h0 : e = 0 := (by omega); subst h0; subst q; simp [boolAt, numAt, asB, asI]; done }; { simp [q]; done })
            | skip
        · ((repeat' first | with_reducible refine nN_h rfl ?_ | with_reducible refine V.brT ?_ | with_reducible refine V.brF ?_ | with_reducible refine V.needI ?_ ?_) <;> (try first | with_reducible exact V.okI | exact rfl | exact ⟨Nat.le_refl _, rfl⟩ | exact Nat.le_refl _ | assumption | omega | trivial | decide | (intros; rfl) | (intros; trivial)))
          all_goals first
            | exact ⟨by show 0 ≤ x.i + 1; omega, by show x.i + 1 ≤ (lg : Int); omega, z5, z3⟩
            | (intro e he; by_cases q : e = M <;> simp [q, *]; done)
            | (intro e; by_cases q : e = M <;> simp [q, capB, *]; done)
            | (intro i e he; by_cases q : i = M <;> simp_all [capB]; done) | (intro i e he; by_cases q : i = M; { have he : e < 1 := (by simpa [q, capB] using he); have h0 : e = 0 := (by omega); subst h0; subst q; simp [boolAt, numAt, asB, asI]; done }; { simp [q]; done })
            | skip
    · have hc : ¬ x.m.g 1 = 0 := of_decide_eq_false (hb.symm.trans hc)
      ((repeat' first | with_reducible refine nN_h rfl ?_ | with_reducible refine V.brT ?_ | with_reducible refine V.brF ?_ | with_reducible refine V.needI ?_ ?_) <;> (try first | with_reducible exact V.okI | exact rfl | exact ⟨Nat.le_refl _, rfl⟩ | exact Nat.le_refl _ | assumption | omega | trivial | decide | (intros; rfl) | (intros; trivial)))
      · exact okLy_0 ⟨i1, i2⟩ (by intro e he hpe; by_cases q : e = M <;> simp [q] at hpe ⊢ <;> first | exact i3 e he hpe | exact hho | (rw [q]; exact hho) | skip) (i4.same (by rw [hm]; simp [hacc', casV, hc, hna]) fun _ _ => rfl)
      refine V.anyI fun y hy => ?_
      obtain ⟨yk, yh⟩ := y
      have hyk := hy.2.1
      have hyh : 0 ≤ yh ∧ yh ≤ 1 := by
        rcases hy.2.2 with ⟨-, -, q⟩ | ⟨u, -, -, -, q⟩
        · have q : yh = 0 := q
          omega
        · have q : yh = if (u : Int) < yk then 1 else 0 := q
          split at q <;> omega
      dsimp only at hyk ⊢
      have ek : IntKind.i64.wrap (yk + Int.ofNat 1) = yk + 1 := w64 (by simp only [Int.ofNat_eq_natCast]; omega)
      have eh : IntKind.i64.wrap (yh + Int.ofNat 1) = yh + 1 := w64 (by simp only [Int.ofNat_eq_natCast]; omega)
      have eu : IntKind.u64.wrap (yk + 1) = yk + 1 := wu64 (by omega)
      simp only [ek, eh, eu]
      refine V.brI (fun c => ?_) fun c => ?_
      · have c : yk < N := of_decide_eq_true c
        have hμ : (N - (yk + 1)).toNat < (N - yk).toNat := by omega
        ((repeat' first | with_reducible refine nN_h rfl ?_ | with_reducible refine V.brT ?_ | with_reducible refine V.brF ?_ | with_reducible refine V.needI ?_ ?_) <;> (try first | with_reducible exact V.okI | exact rfl | exact ⟨Nat.le_refl _, rfl⟩ | exact Nat.le_refl _ | assumption | omega | trivial | decide | (intros; rfl) | (intros; trivial)))
        all_goals try exact ⟨hyk.1, by omega⟩
        all_goals try exact ⟨Nat.zero_lt_one, by omega⟩
        refine V.brI (fun cb => ?_) fun cb => ?_
        · obtain ⟨z1, z2⟩ := okLy_t hy (by omega) cb
          ((repeat' first | with_reducible refine nN_h rfl ?_ | with_reducible refine V.brT ?_ | with_reducible refine V.brF ?_ | with_reducible refine V.needI ?_ ?_) <;> (try first | with_reducible exact V.okI | exact rfl | exact ⟨Nat.le_refl _, rfl⟩ | exact Nat.le_refl _ | assumption | omega | trivial | decide | (intros; rfl) | (intros; trivial)))
          refine V.anyI fun v hv => ?_
          refine V.brI (fun q => (cne ((hv.trans (Mm.val_eq (by decide) (by decide))).trans z1) q).elim) fun _ => ?_
          ((repeat' first | with_reducible refine nN_h rfl ?_ | with_reducible refine V.brT ?_ | with_reducible refine V.brF ?_ | with_reducible refine V.needI ?_ ?_) <;> (try first | with_reducible exact V.okI | exact rfl | exact ⟨Nat.le_refl _, rfl⟩ | exact Nat.le_refl _ | assumption | omega | trivial | decide | (intros; rfl) | (intros; trivial)))
        · have z2 := okLy_f hy (by omega) cb
          ((repeat' first | with_reducible refine nN_h rfl ?_ | with_reducible refine V.brT ?_ | with_reducible refine V.brF ?_ | with_reducible refine V.needI ?_ ?_) <;> (try first | with_reducible exact V.okI | exact rfl | exact ⟨Nat.le_refl _, rfl⟩ | exact Nat.le_refl _ | assumption | omega | trivial | decide | (intros; rfl) | (intros; trivial)))
      · have c : ¬ yk < N := of_decide_eq_false c
        obtain ⟨z1, z2, z3, z4, z5⟩ := okLy_e hy (by omega)
        refine V.brI (fun q => (dgt (by show ¬ yh > (1 : Int); omega) q).elim) fun _ => ?_
        refine V.brI (fun cz => ?_) fun cz => ?_
        · have cz : yh = 0 := eq_of_beq cz
          ((repeat' first | with_reducible refine nN_h rfl ?_ | with_reducible refine V.brT ?_ | with_reducible refine V.brF ?_ | with_reducible refine V.needI ?_ ?_) <;> (try first | with_reducible exact V.okI | exact rfl | exact ⟨Nat.le_refl _, rfl⟩ | exact Nat.le_refl _ | assumption | omega | trivial | decide | (intros; rfl) | (intros; trivial)))
          refine V.anyI fun v hv => ?_
          refine V.brI (fun q => (cne ((hv.trans (Mm.val_eq (by decide) (by decide))).trans (z2 cz)) q).elim) fun _ => ?_
          ((repeat' first | with_reducible refine nN_h rfl ?_ | with_reducible refine V.brT ?_ | with_reducible refine V.brF ?_ | with_reducible refine V.needI ?_ ?_) <;> (try first | with_reducible exact V.okI | exact rfl | exact ⟨Nat.le_refl _, rfl⟩ | exact Nat.le_refl _ | assumption | omega | trivial | decide | (intros; rfl) | (intros; trivial)))
          all_goals first
            | exact ⟨by show 0 ≤ x.i + 1; omega, by show x.i + 1 ≤ (lg : Int); omega, z5, z3⟩
            | (intro e he; by_cases q : e = M <;> simp [q, *]; done)
            | (intro e; by_cases q : e = M <;> simp [q, capB, *]; done)
            | (intro i e he; by_cases q : i = M <;> simp_all [capB]; done) | (intro i e he; by_cases q : i = M; { have he : e < 1 := (by simpa [q, capB] using he); have h0 : e = 0 := (by omega); subst h0; subst q; simp [boolAt, numAt, asB, asI]; done }; { simp [q]; done })
            | skip
        · ((repeat' first | with_reducible refine nN_h rfl ?_ | with_reducible refine V.brT ?_ | with_reducible refine V.brF ?_ | with_reducible refine V.needI ?_ ?_) <;> (try first | with_reducible exact V.okI | exact rfl | exact ⟨Nat.le_refl _, rfl⟩ | exact Nat.le_refl _ | assumption | omega | trivial | decide | (intros; rfl) | (intros; trivial)))
          all_goals first
            | exact ⟨by show 0 ≤ x.i + 1; omega, by show x.i + 1 ≤ (lg : Int); omega, z5, z3⟩
            | (intro e he; by_cases q : e = M <;> simp [q, *]; done)
            | (intro e; by_cases q : e = M <;> simp [q, capB, *]; done)
            | (intro i e he; by_cases q : i = M <;> simp_all [capB]; done) | (intro i e he; by_cases q : i = M; { have he : e < 1 := (by simpa [q, capB] using he); have h0 : e = 0 := (by omega); subst h0; subst q; simp [boolAt, numAt, asB, asI]; done }; { simp [q]; done })
            | skip
  · have hbb : (true && Nat.beq M M) = true := by simp
    ((repeat' first | with_reducible refine nN_h rfl ?_ | with_reducible refine V.brT ?_ | with_reducible refine V.brF ?_ | with_reducible refine V.needI ?_ ?_) <;> (try first | with_reducible exact V.okI | exact rfl | exact ⟨Nat.le_refl _, rfl⟩ | exact Nat.le_refl _ | assumption | omega | trivial | decide | (intros; rfl) | (intros; trivial)))
    refine V.brI (fun hho => ?_) fun hho => ?_
    · ((repeat' first | with_reducible refine nN_h rfl ?_ | with_reducible refine V.brT ?_ | with_reducible refine V.brF ?_ | with_reducible refine V.needI ?_ ?_) <;> (try first | with_reducible exact V.okI | exact rfl | exact ⟨Nat.le_refl _, rfl⟩ | exact Nat.le_refl _ | assumption | omega | trivial | decide | (intros; rfl) | (intros; trivial)))
      refine V.anyI fun m hm => ?_
      ((repeat' first | with_reducible refine nN_h rfl ?_ | with_reducible refine V.brT ?_ | with_reducible refine V.brF ?_ | with_reducible refine V.needI ?_ ?_) <;> (try first | with_reducible exact V.okI | exact rfl | exact ⟨Nat.le_refl _, rfl⟩ | exact Nat.le_refl _ | assumption | omega | trivial | decide | (intros; rfl) | (intros; trivial)))
      · exact okLy_0 ⟨i1, i2⟩ (by intro e he hpe; by_cases q : e = M <;> simp [q] at hpe ⊢ <;> first | exact i3 e he hpe | skip) (i4.rel hM hho (by rw [hm]; simp [hacc']) (by intro k hk; by_cases q : k = M <;> simp [q]))
      refine V.anyI fun y hy => ?_
      obtain ⟨yk, yh⟩ := y
      have hyk := hy.2.1
      have hyh : 0 ≤ yh ∧ yh ≤ 1 := by
        rcases hy.2.2 with ⟨-, -, q⟩ | ⟨u, -, -, -, q⟩
        · have q : yh = 0 := q
          omega
        · have q : yh = if (u : Int) < yk then 1 else 0 := q
          split at q <;> omega
      dsimp only at hyk ⊢
      have ek : IntKind.i64.wrap (yk + Int.ofNat 1) = yk + 1 := w64 (by simp only [Int.ofNat_eq_natCast]; omega)
      have eh : IntKind.i64.wrap (yh + Int.ofNat 1) = yh + 1 := w64 (by simp only [Int.ofNat_eq_natCast]; omega)
      have eu : IntKind.u64.wrap (yk + 1) = yk + 1 := wu64 (by omega)
      simp only [ek, eh, eu]
      refine V.brI (fun c => ?_) fun c => ?_
      · have c : yk < N := of_decide_eq_true c
        have hμ : (N - (yk + 1)).toNat < (N - yk).toNat := by omega
        ((repeat' first | with_reducible refine nN_h rfl ?_ | with_reducible refine V.brT ?_ | with_reducible refine V.brF ?_ | with_reducible refine V.needI ?_ ?_) <;> (try first | with_reducible exact V.okI | exact rfl | exact ⟨Nat.le_refl _, rfl⟩ | exact Nat.le_refl _ | assumption | omega | trivial | decide | (intros; rfl) | (intros; trivial)))
        all_goals try exact ⟨hyk.1, by omega⟩
        all_goals try exact ⟨Nat.zero_lt_one, by omega⟩
        refine V.brI (fun cb => ?_) fun cb => ?_
        · obtain ⟨z1, z2⟩ := okLy_t hy (by omega) cb
          ((repeat' first | with_reducible refine nN_h rfl ?_ | with_reducible refine V.brT ?_ | with_reducible refine V.brF ?_ | with_reducible refine V.needI ?_ ?_) <;> (try first | with_reducible exact V.okI | exact rfl | exact ⟨Nat.le_refl _, rfl⟩ | exact Nat.le_refl _ | assumption | omega | trivial | decide | (intros; rfl) | (intros; trivial)))
          refine V.anyI fun v hv => ?_
          refine V.brI (fun q => (cne ((hv.trans (Mm.val_eq (by decide) (by decide))).trans z1) q).elim) fun _ => ?_
          ((repeat' first | with_reducible refine nN_h rfl ?_ | with_reducible refine V.brT ?_ | with_reducible refine V.brF ?_ | with_reducible refine V.needI ?_ ?_) <;> (try first | with_reducible exact V.okI | exact rfl | exact ⟨Nat.le_refl _, rfl⟩ | exact Nat.le_refl _ | assumption | omega | trivial | decide | (intros; rfl) | (intros; trivial)))
        · have z2 := okLy_f hy (by omega) cb
          ((repeat' first | with_reducible refine nN_h rfl ?_ | with_reducible refine V.brT ?_ | with_reducible refine V.brF ?_ | with_reducible refine V.needI ?_ ?_) <;> (try first | with_reducible exact V.okI | exact rfl | exact ⟨Nat.le_refl _, rfl⟩ | exact Nat.le_refl _ | assumption | omega | trivial | decide | (intros; rfl) | (intros; trivial)))
      · have c : ¬ yk < N := of_decide_eq_false c
        obtain ⟨z1, z2, z3, z4, z5⟩ := okLy_e hy (by omega)
        refine V.brI (fun q => (dgt (by show ¬ yh > (1 : Int); omega) q).elim) fun _ => ?_
        refine V.brI (fun cz => ?_) fun cz => ?_
        · have cz : yh = 0 := eq_of_beq cz
          ((repeat' first | with_reducible refine nN_h rfl ?_ | with_reducible refine V.brT ?_ | with_reducible refine V.brF ?_ | with_reducible refine V.needI ?_ ?_) <;> (try first | with_reducible exact V.okI | exact rfl | exact ⟨Nat.le_refl _, rfl⟩ | exact Nat.le_refl _ | assumption | omega | trivial | decide | (intros; rfl) | (intros; trivial)))
          refine V.anyI fun v hv => ?_
          refine V.brI (fun q => (cne ((hv.trans (Mm.val_eq (by decide) (by decide))).trans (z2 cz)) q).elim) fun _ => ?_
          ((repeat' first | with_reducible refine nN_h rfl ?_ | with_reducible refine V.brT ?_ | with_reducible refine V.brF ?_ | with_reducible refine V.needI ?_ ?_) <;> (try first | with_reducible exact V.okI | exact rfl | exact ⟨Nat.le_refl _, rfl⟩ | exact Nat.le_refl _ | assumption | omega | trivial | decide | (intros; rfl) | (intros; trivial)))
          all_goals first
            | exact ⟨by show 0 ≤ x.i + 1; omega, by show x.i + 1 ≤ (lg : Int); omega, z5, z3⟩
            | (intro e he; by_cases q : e = M <;> simp [q, *]; done)
            | (intro e; by_cases q : e = M <;> simp [q, capB, *]; done)
            | (intro i e he; by_cases q : i = M <;> simp_all [capB]; done) | (intro i e he; by_cases q : i = M; { have he : e < 1 := (by simpa [q, capB] using he); have h0 : e = 0 := (by omega); subst h0; subst q; simp [boolAt, numAt, asB, asI]; done }; { simp [q]; done })
            | skip
        · ((repeat' first | with_reducible refine nN_h rfl ?_ | with_reducible refine V.brT ?_ | with_reducible refine V.brF ?_ | with_reducible refine V.needI ?_ ?_) <;> (try first | with_reducible exact V.okI | exact rfl | exact ⟨Nat.le_refl _, rfl⟩ | exact Nat.le_refl _ | assumption | omega | trivial | decide | (intros; rfl) | (intros; trivial)))
          all_goals first
            | exact ⟨by show 0 ≤ x.i + 1; omega, by show x.i + 1 ≤ (lg : Int); omega, z5, z3⟩
            | (intro e he; by_cases q : e = M <;> simp [q, *]; done)
            | (intro e; by_cases q : e = M <;> simp [q, capB, *]; done)
            | (intro i e he; by_cases q : i = M <;> simp_all [capB]; done) | (intro i e he; by_cases q : i = M; { have he : e < 1 := (by simpa [q, capB] using he); have h0 : e = 0 := (by omega); subst h0; subst q; simp [boolAt, numAt, asB, asI]; done }; { simp [q]; done })
            | skip
    · ((repeat' first | with_reducible refine nN_h rfl ?_ | with_reducible refine V.brT ?_ | with_reducible refine V.brF ?_ | with_reducible refine V.needI ?_ ?_) <;> (try first | with_reducible exact V.okI | exact rfl | exact ⟨Nat.le_refl _, rfl⟩ | exact Nat.le_refl _ | assumption | omega | trivial | decide | (intros; rfl) | (intros; trivial)))
      refine V.brI (fun h2 => ?_) fun h2 => ?_
      · ((repeat' first | with_reducible refine nN_h rfl ?_ | with_reducible refine V.brT ?_ | with_reducible refine V.brF ?_ | with_reducible refine V.needI ?_ ?_) <;> (try first | with_reducible exact V.okI | exact rfl | exact ⟨Nat.le_refl _, rfl⟩ | exact Nat.le_refl _ | assumption | omega | trivial | decide | (intros; rfl) | (intros; trivial)))
        all_goals try exact ⟨⟨Nat.le_refl _, Nat.le_refl _, Nat.le_refl _, Nat.le_refl _, Nat.le_refl _, trivial⟩, fun i e h q w => q ⟨h.1, w⟩⟩
        refine V.anyI fun m hm => ?_
        ((repeat' first | with_reducible refine nN_h rfl ?_ | with_reducible refine V.brT ?_ | with_reducible refine V.brF ?_ | with_reducible refine V.needI ?_ ?_) <;> (try first | with_reducible exact V.okI | exact rfl | exact ⟨Nat.le_refl _, rfl⟩ | exact Nat.le_refl _ | assumption | omega | trivial | decide | (intros; rfl) | (intros; trivial)))
        refine V.anyI fun b hb => ?_
        refine V.brI (fun hc => ?_) fun hc => ?_
        · have hc : x.m.g 1 = 0 := of_decide_eq_true (hb.symm.trans hc)
          ((repeat' first | with_reducible refine nN_h rfl ?_ | with_reducible refine V.brT ?_ | with_reducible refine V.brF ?_ | with_reducible refine V.needI ?_ ?_) <;> (try first | with_reducible exact V.okI | exact rfl | exact ⟨Nat.le_refl _, rfl⟩ | exact Nat.le_refl _ | assumption | omega | trivial | decide | (intros; rfl) | (intros; trivial)))
          · exact okLy_0 ⟨i1, i2⟩ (by intro e he hpe; by_cases q : e = M <;> simp [q] at hpe ⊢ <;> first | exact i3 e he hpe | exact hho | (rw [q]; exact hho) | skip) (i4.got hM hc (by rw [hm]; simp [hacc', casV, hc, hna]) (by intro k hk; by_cases q : k = M <;> simp [q]))
          refine V.anyI fun y hy => ?_
          obtain ⟨yk, yh⟩ := y
          have hyk := hy.2.1
          have hyh : 0 ≤ yh ∧ yh ≤ 1 := by
            rcases hy.2.2 with ⟨-, -, q⟩ | ⟨u, -, -, -, q⟩
            · have q : yh = 0 := q
              omega
            · have q : yh = if (u : Int) < yk then 1 else 0 := q
              split at q <;> omega
          dsimp only at hyk ⊢
          have ek : IntKind.i64.wrap (yk + Int.ofNat 1) = yk + 1 := w64 (by simp only [Int.ofNat_eq_natCast]; omega)
          have eh : IntKind.i64.wrap (yh + Int.ofNat 1) = yh + 1 := w64 (by simp only [Int.ofNat_eq_natCast]; omega)
          have eu : IntKind.u64.wrap (yk + 1) = yk + 1 := wu64 (by omega)
          simp only [ek, eh, eu]
          refine V.brI (fun c => ?_) fun c => ?_
          · have c : yk < N := of_decide_eq_true c
            have hμ : (N - (yk + 1)).toNat < (N - yk).toNat := by omega
            ((repeat' first | with_reducible refine nN_h rfl ?_ | with_reducible refine V.brT ?_ | with_reducible refine V.brF ?_ | with_reducible refine V.needI ?_ ?_) <;> (try first | with_reducible exact V.okI | exact rfl | exact ⟨Nat.le_refl _, rfl⟩ | exact Nat.le_refl _ | assumption | omega | trivial | decide | (intros; rfl) | (intros; trivial)))
            all_goals try exact ⟨hyk.1, by omega⟩
            all_goals try exact ⟨Nat.zero_lt_one, by omega⟩
            refine V.brI (fun cb => ?_) fun cb => ?_
            · obtain ⟨z1, z2⟩ := okLy_t hy (by omega) cb
              ((repeat' first | with_reducible refine nN_h rfl ?_ | with_reducible refine V.brT ?_ | with_reducible refine V.brF ?_ | with_reducible refine V.needI ?_ ?_) <;> (try first | with_reducible exact V.okI | exact rfl | exact ⟨Nat.le_refl _, rfl⟩ | exact Nat.le_refl _ | assumption | omega | trivial | decide | (intros; rfl) | (intros; trivial)))
              refine V.anyI fun v hv => ?_
              refine V.brI (fun q => (cne ((hv.trans (Mm.val_eq (by decide) (by decide))).trans z1) q).elim) fun _ => ?_
              ((repeat' first | with_reducible refine nN_h rfl ?_ | with_reducible refine V.brT ?_ | with_reducible refine V.brF ?_ | with_reducible refine V.needI ?_ ?_) <;> (try first | with_reducible exact V.okI | exact rfl | exact ⟨Nat.le_refl _, rfl⟩ | exact Nat.le_refl _ | assumption | omega | trivial | decide | (intros; rfl) | (intros; trivial)))
            · have z2 := okLy_f hy (by omega) cb
              ((repeat' first | with_reducible refine nN_h rfl ?_ | with_reducible refine V.brT ?_ | with_reducible refine V.brF ?_ | with_reducible refine V.needI ?_ ?_) <;> (try first | with_reducible exact V.okI | exact rfl | exact ⟨Nat.le_refl _, rfl⟩ | exact Nat.le_refl _ | assumption | omega | trivial | decide | (intros; rfl) | (intros; trivial)))
          · have c : ¬ yk < N := of_decide_eq_false c
            obtain ⟨z1, z2, z3, z4, z5⟩ := okLy_e hy (by omega)
            refine V.brI (fun q => (dgt (by show ¬ yh > (1 : Int); omega) q).elim) fun _ => ?_
            refine V.brI (fun cz => ?_) fun cz => ?_
            · have cz : yh = 0 := eq_of_beq cz
              ((repeat' first | with_reducible refine nN_h rfl ?_ | with_reducible refine V.brT ?_ | with_reducible refine V.brF ?_ | with_reducible refine V.needI ?_ ?_) <;> (try first | with_reducible exact V.okI | exact rfl | exact ⟨Nat.le_refl _, rfl⟩ | exact Nat.le_refl _ | assumption | omega | trivial | decide | (intros; rfl) | (intros; trivial)))
              refine V.anyI fun v hv => ?_
              refine V.brI (fun q => (cne ((hv.trans (Mm.val_eq (by decide) (by decide))).trans (z2 cz)) q).elim) fun _ => ?_
              ((repeat' first | with_reducible refine nN_h rfl ?_ | with_reducible refine V.brT ?_ | with_reducible refine V.brF ?_ | with_reducible refine V.needI ?_ ?_) <;> (try first | with_reducible exact V.okI | exact rfl | exact ⟨Nat.le_refl _, rfl⟩ | exact Nat.le_refl _ | assumption | omega | trivial | decide | (intros; rfl) | (intros; trivial)))
              all_goals first
                | exact ⟨by show 0 ≤ x.i + 1; omega, by show x.i + 1 ≤ (lg : Int); omega, z5, z3⟩
                | (intro e he; by_cases q : e = M <;> simp [q, *]; done)
                | (intro e; by_cases q : e = M <;> simp [q, capB, *]; done)
                | (intro i e he; by_cases q : i = M <;> simp_all [capB]; done) | (intro i e he; by_cases q : i = M; { have he : e < 1 := (by simpa [q, capB] using he); have h0 : e = 0 := (by omega); subst h0; subst q; simp [boolAt, numAt, asB, asI]; done }; { simp [q]; done })
                | skip
            · ((repeat' first | with_reducible refine nN_h rfl ?_ | with_reducible refine V.brT ?_ | with_reducible refine V.brF ?_ | with_reducible refine V.needI ?_ ?_) <;> (try first | with_reducible exact V.okI | exact rfl | exact ⟨Nat.le_refl _, rfl⟩ | exact Nat.le_refl _ | assumption | omega | trivial | decide | (intros; rfl) | (intros; trivial)))
              all_goals first
                | exact ⟨by show 0 ≤ x.i + 1; omega, by show x.i + 1 ≤ (lg : Int); omega, z5, z3⟩
                | (intro e he; by_cases q : e = M <;> simp [q, *]; done)
                | (intro e; by_cases q : e = M <;> simp [q, capB, *]; done)
                | (intro i e he; by_cases q : i = M <;> simp_all [capB]; done) | (intro i e he; by_cases q : i = M; { have he : e < 1 := (by simpa [q, capB] using he); have h0 : e = 0 := (by omega); subst h0; subst q; simp [boolAt, numAt, asB, asI]; done }; { simp [q]; done })
                | skip
        · have hc : ¬ x.m.g 1 = 0 := of_decide_eq_false (hb.symm.trans hc)
          ((repeat' first | with_reducible refine nN_h rfl ?_ | with_reducible refine V.brT ?_ | with_reducible refine V.brF ?_ | with_reducible refine V.needI ?_ ?_) <;> (try first | with_reducible exact V.okI | exact rfl | exact ⟨Nat.le_refl _, rfl⟩ | exact Nat.le_refl _ | assumption | omega | trivial | decide | (intros; rfl) | (intros; trivial)))
          · exact okLy_0 ⟨i1, i2⟩ (by intro e he hpe; by_cases q : e = M <;> simp [q] at hpe ⊢ <;> first | exact i3 e he hpe | exact hho | (rw [q]; exact hho) | skip) (i4.same (by rw [hm]; simp [hacc', casV, hc, hna]) fun _ _ => rfl)
          refine V.anyI fun y hy => ?_
          obtain ⟨yk, yh⟩ := y
          have hyk := hy.2.1
          have hyh : 0 ≤ yh ∧ yh ≤ 1 := by
            rcases hy.2.2 with ⟨-, -, q⟩ | ⟨u, -, -, -, q⟩
            · have q : yh = 0 := q
              omega
            · have q : yh = if (u : Int) < yk then 1 else 0 := q
              split at q <;> omega
          dsimp only at hyk ⊢
          have ek : IntKind.i64.wrap (yk + Int.ofNat 1) = yk + 1 := w64 (by simp only [Int.ofNat_eq_natCast]; omega)
          have eh : IntKind.i64.wrap (yh + Int.ofNat 1) = yh + 1 := w64 (by simp only [Int.ofNat_eq_natCast]; omega)
          have eu : IntKind.u64.wrap (yk + 1) = yk + 1 := wu64 (by omega)
          simp only [ek, eh, eu]
          refine V.brI (fun c => ?_) fun c => ?_
          · have c : yk < N := of_decide_eq_true c
            have hμ : (N - (yk + 1)).toNat < (N - yk).toNat := by omega
            ((repeat' first | with_reducible refine nN_h rfl ?_ | with_reducible refine V.brT ?_ | with_reducible refine V.brF ?_ | with_reducible refine V.needI ?_ ?_) <;> (try first | with_reducible exact V.okI | exact rfl | exact ⟨Nat.le_refl _, rfl⟩ | exact Nat.le_refl _ | assumption | omega | trivial | decide | (intros; rfl) | (intros; trivial)))
            all_goals try exact ⟨hyk.1, by omega⟩
            all_goals try exact ⟨Nat.zero_lt_one, by omega⟩
            refine V.brI (fun cb => ?_) fun cb => ?_
            · obtain ⟨z1, z2⟩ := okLy_t hy (by omega) cb
              ((repeat' first | with_reducible refine nN_h rfl ?_ | with_reducible refine V.brT ?_ | with_reducible refine V.brF ?_ | with_reducible refine V.needI ?_ ?_) <;> (try first | with_reducible exact V.okI | exact rfl | exact ⟨Nat.le_refl _, rfl⟩ | exact Nat.le_refl _ | assumption | omega | trivial | decide | (intros; rfl) | (intros; trivial)))
              refine V.anyI fun v hv => ?_
              refine V.brI (fun q => (cne ((hv.trans (Mm.val_eq (by decide) (by decide))).trans z1) q).elim) fun _ => ?_
              ((repeat' first | with_reducible refine nN_h rfl ?_ | with_reducible refine V.brT ?_ | with_reducible refine V.brF ?_ | with_reducible refine V.needI ?_ ?_) <;> (try first | with_reducible exact V.okI | exact rfl | exact ⟨Nat.le_refl _, rfl⟩ | exact Nat.le_refl _ | assumption | omega | trivial | decide | (intros; rfl) | (intros; trivial)))
            · have z2 := okLy_f hy (by omega) cb
              ((repeat' first | with_reducible refine nN_h rfl ?_ | with_reducible refine V.brT ?_ | with_reducible refine V.brF ?_ | with_reducible refine V.needI ?_ ?_) <;> (try first | with_reducible exact V.okI | exact rfl | exact ⟨Nat.le_refl _, rfl⟩ | exact Nat.le_refl _ | assumption | omega | trivial | decide | (intros; rfl) | (intros; trivial)))
          · have c : ¬ yk < N := of_decide_eq_false c
            obtain ⟨z1, z2, z3, z4, z5⟩ := okLy_e hy (by omega)
            refine V.brI (fun q => (dgt (by show ¬ yh > (1 : Int); omega) q).elim) fun _ => ?_
            refine V.brI (fun cz => ?_) fun cz => ?_
            · have cz : yh = 0 := eq_of_beq cz
              ((repeat' first | with_reducible refine nN_h rfl ?_ | with_reducible refine V.brT ?_ | with_reducible refine V.brF ?_ | with_reducible refine V.needI ?_ ?_) <;> (try first | with_reducible exact V.okI | exact rfl | exact ⟨Nat.le_refl _, rfl⟩ | exact Nat.le_refl _ | assumption | omega | trivial | decide | (intros; rfl) | (intros; trivial)))
              refine V.anyI fun v hv => ?_
              refine V.brI (fun q => (cne ((hv.trans (Mm.val_eq (by decide) (by decide))).trans (z2 cz)) q).elim) fun _ => ?_
              ((repeat' first | with_reducible refine nN_h rfl ?_ | with_reducible refine V.brT ?_ | with_reducible refine V.brF ?_ | with_reducible refine V.needI ?_ ?_) <;> (try first | with_reducible exact V.okI | exact rfl | exact ⟨Nat.le_refl _, rfl⟩ | exact Nat.le_refl _ | assumption | omega | trivial | decide | (intros; rfl) | (intros; trivial)))
              all_goals first
                | exact ⟨by show 0 ≤ x.i + 1; omega, by show x.i + 1 ≤ (lg : Int); omega, z5, z3⟩
                | (intro e he; by_cases q : e = M <;> simp [q, *]; done)
                | (intro e; by_cases q : e = M <;> simp [q, capB, *]; done)
                | (intro i e he; by_cases q : i = M <;> simp_all [capB]; done) | (intro i e he; by_cases q : i = M; { have he : e < 1 := (by simpa [q, capB] using he); have h0 : e = 0 := (by omega); subst h0; subst q; simp [boolAt, numAt, asB, asI]; done }; { simp [q]; done })
                | skip
            · ((repeat' first | with_reducible refine nN_h rfl ?_ | with_reducible refine V.brT ?_ | with_reducible refine V.brF ?_ | with_reducible refine V.needI ?_ ?_) <;> (try first | with_reducible exact V.okI | exact rfl | exact ⟨Nat.le_refl _, rfl⟩ | exact Nat.le_refl _ | assumption | omega | trivial | decide | (intros; rfl) | (intros; trivial)))
              all_goals first
                | exact ⟨by show 0 ≤ x.i + 1; omega, by show x.i + 1 ≤ (lg : Int); omega, z5, z3⟩
                | (intro e he; by_cases q : e = M <;> simp [q, *]; done)
                | (intro e; by_cases q : e = M <;> simp [q, capB, *]; done)
                | (intro i e he; by_cases q : i = M <;> simp_all [capB]; done) | (intro i e he; by_cases q : i = M; { have he : e < 1 := (by simpa [q, capB] using he); have h0 : e = 0 := (by omega); subst h0; subst q; simp [boolAt, numAt, asB, asI]; done }; { simp [q]; done })
                | skip
      · ((repeat' first | with_reducible refine nN_h rfl ?_ | with_reducible refine V.brT ?_ | with_reducible refine V.brF ?_ | with_reducible refine V.needI ?_ ?_) <;> (try first | with_reducible exact V.okI | exact rfl | exact ⟨Nat.le_refl _, rfl⟩ | exact Nat.le_refl _ | assumption | omega | trivial | decide | (intros; rfl) | (intros; trivial)))
        all_goals try exact ⟨⟨Nat.le_refl _, Nat.le_refl _, Nat.le_refl _, Nat.le_refl _, Nat.le_refl _, trivial⟩, fun i e h q w => q ⟨h.1, w⟩⟩
        refine V.anyI fun m hm => ?_
        ((repeat' first | with_reducible refine nN_h rfl ?_ | with_reducible refine V.brT ?_ | with_reducible refine V.brF ?_ | with_reducible refine V.needI ?_ ?_) <;> (try first | with_reducible exact V.okI | exact rfl | exact ⟨Nat.le_refl _, rfl⟩ | exact Nat.le_refl _ | assumption | omega | trivial | decide | (intros; rfl) | (intros; trivial)))
        refine V.anyI fun b hb => ?_
        refine V.brI (fun hc => ?_) fun hc => ?_
        · have hc : x.m.g 1 = 0 := of_decide_eq_true (hb.symm.trans hc)
          ((repeat' first | with_reducible refine nN_h rfl ?_ | with_reducible refine V.brT ?_ | with_reducible refine V.brF ?_ | with_reducible refine V.needI ?_ ?_) <;> (try first | with_reducible exact V.okI | exact rfl | exact ⟨Nat.le_refl _, rfl⟩ | exact Nat.le_refl _ | assumption | omega | trivial | decide | (intros; rfl) | (intros; trivial)))
          · exact okLy_0 ⟨i1, i2⟩ (by intro e he hpe; by_cases q : e = M <;> simp [q] at hpe ⊢ <;> first | exact i3 e he hpe | exact hho | (rw [q]; exact hho) | skip) (i4.got hM hc (by rw [hm]; simp [hacc', casV, hc, hna]) (by intro k hk; by_cases q : k = M <;> simp [q]))
          refine V.anyI fun y hy => ?_
          obtain ⟨yk, yh⟩ := y
          have hyk := hy.2.1
          have hyh : 0 ≤ yh ∧ yh ≤ 1 := by
            rcases hy.2.2 with ⟨-, -, q⟩ | ⟨u, -, -, -, q⟩
            · have q : yh = 0 := q
              omega
            · have q : yh = if (u : Int) < yk then 1 else 0 := q
              split at q <;> omega
          dsimp only at hyk ⊢
          have ek : IntKind.i64.wrap (yk + Int.ofNat 1) = yk + 1 := w64 (by simp only [Int.ofNat_eq_natCast]; omega)
          have eh : IntKind.i64.wrap (yh + Int.ofNat 1) = yh + 1 := w64 (by simp only [Int.ofNat_eq_natCast]; omega)
          have eu : IntKind.u64.wrap (yk + 1) = yk + 1 := wu64 (by omega)
          simp only [ek, eh, eu]
          refine V.brI (fun c => ?_) fun c => ?_
          · have c : yk < N := of_decide_eq_true c
            have hμ : (N - (yk + 1)).toNat < (N - yk).toNat := by omega
            ((repeat' first | with_reducible refine nN_h rfl ?_ | with_reducible refine V.brT ?_ | with_reducible refine V.brF ?_ | with_reducible refine V.needI ?_ ?_) <;> (try first | with_reducible exact V.okI | exact rfl | exact ⟨Nat.le_refl _, rfl⟩ | exact Nat.le_refl _ | assumption | omega | trivial | decide | (intros; rfl) | (intros; trivial)))
            all_goals try exact ⟨hyk.1, by omega⟩
            all_goals try exact ⟨Nat.zero_lt_one, by omega⟩
            refine V.brI (fun cb => ?_) fun cb => ?_
            · obtain ⟨z1, z2⟩ := okLy_t hy (by omega) cb
              ((repeat' first | with_reducible refine nN_h rfl ?_ | with_reducible refine V.brT ?_ | with_reducible refine V.brF ?_ | with_reducible refine V.needI ?_ ?_) <;> (try first | with_reducible exact V.okI | exact rfl | exact ⟨Nat.le_refl _, rfl⟩ | exact Nat.le_refl _ | assumption | omega | trivial | decide | (intros; rfl) | (intros; trivial)))
              refine V.anyI fun v hv => ?_
              refine V.brI (fun q => (cne ((hv.trans (Mm.val_eq (by decide) (by decide))).trans z1) q).elim) fun _ => ?_
              ((repeat' first | with_reducible refine nN_h rfl ?_ | with_reducible refine V.brT ?_ | with_reducible refine V.brF ?_ | with_reducible refine V.needI ?_ ?_) <;> (try first | with_reducible exact V.okI | exact rfl | exact ⟨Nat.le_refl _, rfl⟩ | exact Nat.le_refl _ | assumption | omega | trivial | decide | (intros; rfl) | (intros; trivial)))
            · have z2 := okLy_f hy (by omega) cb
              ((repeat' first | with_reducible refine nN_h rfl ?_ | with_reducible refine V.brT ?_ | with_reducible refine V.brF ?_ | with_reducible refine V.needI ?_ ?_) <;> (try first | with_reducible exact V.okI | exact rfl | exact ⟨Nat.le_refl _, rfl⟩ | exact Nat.le_refl _ | assumption | omega | trivial | decide | (intros; rfl) | (intros; trivial)))
          · have c : ¬ yk < N := of_decide_eq_false c
            obtain ⟨z1, z2, z3, z4, z5⟩ := okLy_e hy (by omega)
            refine V.brI (fun q => (dgt (by show ¬ yh > (1 : Int); omega) q).elim) fun _ => ?_
            refine V.brI (fun cz => ?_) fun cz => ?_
            · have cz : yh = 0 := eq_of_beq cz
              ((repeat' first | with_reducible refine nN_h rfl ?_ | with_reducible refine V.brT ?_ | with_reducible refine V.brF ?_ | with_reducible refine V.needI ?_ ?_) <;> (try first | with_reducible exact V.okI | exact rfl | exact ⟨Nat.le_refl _, rfl⟩ | exact Nat.le_refl _ | assumption | omega | trivial | decide | (intros; rfl) | (intros; trivial)))
              refine V.anyI fun v hv => ?_
              refine V.brI (fun q => (cne ((hv.trans (Mm.val_eq (by decide) (by decide))).trans (z2 cz)) q).elim) fun _ => ?_
              ((repeat' first | with_reducible refine nN_h rfl ?_ | with_reducible refine V.brT ?_ | with_reducible refine V.brF ?_ | with_reducible refine V.needI ?_ ?_) <;> (try first | with_reducible exact V.okI | exact rfl | exact ⟨Nat.le_refl _, rfl⟩ | exact Nat.le_refl _ | assumption | omega | trivial | decide | (intros; rfl) | (intros; trivial)))
              all_goals first
                | exact ⟨by show 0 ≤ x.i + 1; omega, by show x.i + 1 ≤ (lg : Int); omega, z5, z3⟩
                | (intro e he; by_cases q : e = M <;> simp [q, *]; done)
                | (intro e; by_cases q : e = M <;> simp [q, capB, *]; done)
                | (intro i e he; by_cases q : i = M <;> simp_all [capB]; done) | (intro i e he; by_cases q : i = M; { have he : e < 1 := (by simpa [q, capB] using he); have h0 : e = 0 := (by omega); subst h0; subst q; simp [boolAt, numAt, asB, asI]; done }; { simp [q]; done })
                | skip
            · ((repeat' first | with_reducible refine nN_h rfl ?_ | with_reducible refine V.brT ?_ | with_reducible refine V.brF ?_ | with_reducible refine V.needI ?_ ?_) <;> (try first | with_reducible exact V.okI | exact rfl | exact ⟨Nat.le_refl _, rfl⟩ | exact Nat.le_refl _ | assumption | omega | trivial | decide | (intros; rfl) | (intros; trivial)))
              all_goals first
                | exact ⟨by show 0 ≤ x.i + 1; omega, by show x.i + 1 ≤ (lg : Int); omega, z5, z3⟩
                | (intro e he; by_cases q : e = M <;> simp [q, *]; done)
                | (intro e; by_cases q : e = M <;> simp [q, capB, *]; done)
                | (intro i e he; by_cases q : i = M <;> simp_all [capB]; done) | (intro i e he; by_cases q : i = M; { have he : e < 1 := (by simpa [q, capB] using he); have h0 : e = 0 := (by omega); subst h0; subst q; simp [boolAt, numAt, asB, asI]; done }; { simp [q]; done })
                | skip
        · have hc : ¬ x.m.g 1 = 0 := of_decide_eq_false (hb.symm.trans hc)
          ((repeat' first | with_reducible refine nN_h rfl ?_ | with_reducible refine V.brT ?_ | with_reducible refine V.brF ?_ | with_reducible refine V.needI ?_ ?_) <;> (try first | with_reducible exact V.okI | exact rfl | exact ⟨Nat.le_refl _, rfl⟩ | exact Nat.le_refl _ | assumption | omega | trivial | decide | (intros; rfl) | (intros; trivial)))
          · exact okLy_0 ⟨i1, i2⟩ (by intro e he hpe; by_cases q : e = M <;> simp [q] at hpe ⊢ <;> first | exact i3 e he hpe | exact hho | (rw [q]; exact hho) | skip) (i4.no hM hho (by rw [hm]; simp [hacc', casV, hc, hna]) (by intro k hk; by_cases q : k = M <;> simp [q]))
          refine V.anyI fun y hy => ?_
          obtain ⟨yk, yh⟩ := y
          have hyk := hy.2.1
          have hyh : 0 ≤ yh ∧ yh ≤ 1 := by
            rcases hy.2.2 with ⟨-, -, q⟩ | ⟨u, -, -, -, q⟩
            · have q : yh = 0 := q
              omega
            · have q : yh = if (u : Int) < yk then 1 else 0 := q
              split at q <;> omega
          dsimp only at hyk ⊢
          have ek : IntKind.i64.wrap (yk + Int.ofNat 1) = yk + 1 := w64 (by simp only [Int.ofNat_eq_natCast]; omega)
          have eh : IntKind.i64.wrap (yh + Int.ofNat 1) = yh + 1 := w64 (by simp only [Int.ofNat_eq_natCast]; omega)
          have eu : IntKind.u64.wrap (yk + 1) = yk + 1 := wu64 (by omega)
          simp only [ek, eh, eu]
          refine V.brI (fun c => ?_) fun c => ?_
          · have c : yk < N := of_decide_eq_true c
            have hμ : (N - (yk + 1)).toNat < (N - yk).toNat := by omega
            ((repeat' first | with_reducible refine nN_h rfl ?_ | with_reducible refine V.brT ?_ | with_reducible refine V.brF ?_ | with_reducible refine V.needI ?_ ?_) <;> (try first | with_reducible exact V.okI | exact rfl | exact ⟨Nat.le_refl _, rfl⟩ | exact Nat.le_refl _ | assumption | omega | trivial | decide | (intros; rfl) | (intros; trivial)))
            all_goals try exact ⟨hyk.1, by omega⟩
            all_goals try exact ⟨Nat.zero_lt_one, by omega⟩
            refine V.brI (fun cb => ?_) fun cb => ?_
            · obtain ⟨z1, z2⟩ := okLy_t hy (by omega) cb
              ((repeat' first | with_reducible refine nN_h rfl ?_ | with_reducible refine V.brT ?_ | with_reducible refine V.brF ?_ | with_reducible refine V.needI ?_ ?_) <;> (try first | with_reducible exact V.okI | exact rfl | exact ⟨Nat.le_refl _, rfl⟩ | exact Nat.le_refl _ | assumption | omega | trivial | decide | (intros; rfl) | (intros; trivial)))
              refine V.anyI fun v hv => ?_
              refine V.brI (fun q => (cne ((hv.trans (Mm.val_eq (by decide) (by decide))).trans z1) q).elim) fun _ => ?_
              ((repeat' first | with_reducible refine nN_h rfl ?_ | with_reducible refine V.brT ?_ | with_reducible refine V.brF ?_ | with_reducible refine V.needI ?_ ?_) <;> (try first | with_reducible exact V.okI | exact rfl | exact ⟨Nat.le_refl _, rfl⟩ | exact Nat.le_refl _ | assumption | omega | trivial | decide | (intros; rfl) | (intros; trivial)))
            · have z2 := okLy_f hy (by omega) cb
              ((repeat' first | with_reducible refine nN_h rfl ?_ | with_reducible refine V.brT ?_ | with_reducible refine V.brF ?_ | with_reducible refine V.needI ?_ ?_) <;> (try first | with_reducible exact V.okI | exact rfl | exact ⟨Nat.le_refl _, rfl⟩ | exact Nat.le_refl _ | assumption | omega | trivial | decide | (intros; rfl) | (intros; trivial)))
          · have c : ¬ yk < N := of_decide_eq_false c
            obtain ⟨z1, z2, z3, z4, z5⟩ := okLy_e hy (by omega)
            refine V.brI (fun q => (dgt (by show ¬ yh > (1 : Int); omega) q).elim) fun _ => ?_
            refine V.brI (fun cz => ?_) fun cz => ?_
            · have cz : yh = 0 := eq_of_beq cz
              ((repeat' first | with_reducible refine nN_h rfl ?_ | with_reducible refine V.brT ?_ | with_reducible refine V.brF ?_ | with_reducible refine V.needI ?_ ?_) <;> (try first | with_reducible exact V.okI | exact rfl | exact ⟨Nat.le_refl _, rfl⟩ | exact Nat.le_refl _ | assumption | omega | trivial | decide | (intros; rfl) | (intros; trivial)))
              refine V.anyI fun v hv => ?_
              refine V.brI (fun q => (cne ((hv.trans (Mm.val_eq (by decide) (by decide))).trans (z2 cz)) q).elim) fun _ => ?_
              ((repeat' first | with_reducible refine nN_h rfl ?_ | with_reducible refine V.brT ?_ | with_reducible refine V.brF ?_ | with_reducible refine V.needI ?_ ?_) <;> (try first | with_reducible exact V.okI | exact rfl | exact ⟨Nat.le_refl _, rfl⟩ | exact Nat.le_refl _ | assumption | omega | trivial | decide | (intros; rfl) | (intros; trivial)))
              all_goals first
                | exact ⟨by show 0 ≤ x.i + 1; omega, by show x.i + 1 ≤ (lg : Int); omega, z5, z3⟩
                | (intro e he; by_cases q : e = M <;> simp [q, *]; done)
                | (intro e; by_cases q : e = M <;> simp [q, capB, *]; done)
                | (intro i e he; by_cases q : i = M <;> simp_all [capB]; done) | (intro i e he; by_cases q : i = M; { have he : e < 1 := (by simpa [q, capB] using he); have h0 : e = 0 := (by omega); subst h0; subst q; simp [boolAt, numAt, asB, asI]; done }; { simp [q]; done })
                | skip
            · ((repeat' first | with_reducible refine nN_h rfl ?_ | with_reducible refine V.brT ?_ | with_reducible refine V.brF ?_ | with_reducible refine V.needI ?_ ?_) <;> (try first | with_reducible exact V.okI | exact rfl | exact ⟨Nat.le_refl _, rfl⟩ | exact Nat.le_refl _ | assumption | omega | trivial | decide | (intros; rfl) | (intros; trivial)))
              all_goals first
                | exact ⟨by show 0 ≤ x.i + 1; omega, by show x.i + 1 ≤ (lg : Int); omega, z5, z3⟩
                | (intro e he; by_cases q : e = M <;> simp [q, *]; done)
                | (intro e; by_cases q : e = M <;> simp [q, capB, *]; done)
                | (intro i e he; by_cases q : i = M <;> simp_all [capB]; done) | (intro i e he; by_cases q : i = M; { have he : e < 1 := (by simpa [q, capB] using he); have h0 : e = 0 := (by omega); subst h0; subst q; simp [boolAt, numAt, asB, asI]; done }; { simp [q]; done })
                | skip
theorem u8x {n : Int} (h : (Lit.int .u8 n).wf = true) : 0 ≤ n ∧ n ≤ 255 := by
  simp [Lit.wf, IntKind.min, IntKind.max, IntKind.bits, IntKind.signed] at h; omega
theorem walkLx (a : Int) (ad : Option Addr) (len cap : Nat) (g : Nat → Int) (W : World) (ha : (Lit.int .u8 a).wf = true) (h : IsInts .i64 W ad len cap g) :
    Calls P 7 #[.int .u8 a, .slice ad len cap] W fun e w' => e = .returned (.bool true) ∧ Below W.heap.size W w' := by
  refine calls_yesV (vs := [.int .u8 a, .slice ad len cap]) con15x_ok (ρ := fun k i => if k = 0 ∧ i = 0 then addr0 ad else none) (vhLx (g := g) (lg := len) (cg := cap) (u8x ha)) (views_inv fun k b hk => ?_) ⟨fun _ _ => rfl, h.val (by simp) ⟨Nat.le_of_ble_eq_true rfl, trivial⟩, trivial⟩
  rw [find_cons] at hk
  split at hk
  · rename_i e; subst e
    cases hk
    exact ⟨rfl, by decide, h.sat (by simp)⟩
  · cases hk
end Go.Proofs.Ytomaagmleafjeaa.Md
