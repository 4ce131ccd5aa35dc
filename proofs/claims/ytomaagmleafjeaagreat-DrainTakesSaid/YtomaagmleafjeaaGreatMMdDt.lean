/- DrainTakes: the conditions, printed by program. -/
import Derived.Test.YtomaagmleafjeaaGreatMMdDtD
import Derived.Test.YtomaagmleafjeaaGreatMW
import Derived.Test.YtomaagmleafjeaaGreatMMdBr
set_option linter.unusedVariables false
set_option linter.unusedSimpArgs false
set_option linter.unusedVariables false
set_option maxRecDepth 100000
namespace Go.Proofs.YtomaagmleafjeaaGreat.Md
open Go Go.RowKit Sx Cn Dc Ck Vc

set_option maxHeartbeats 8000000 in
theorem verDt_eq (ba de : Int) (g : Nat → Int) (len cap : Nat) : verDt ba de g len cap =
  nN [(1, .neI 4 0)]
    (V.need (IntKind.i64.wrap (Int.ofNat 1 + IntKind.i64.wrap (de.tmod (Int.ofNat 4))) ≠ Int.ofNat 0)
    (V.need ((U8 0 fun (x : Nat) => Int.ofNat 0) ∧ 0 ≤ 9)
    (V.need (∃ (x : Nat × Nat × (Nat → Nat)), 1 ≤ x.fst)
    (V.any (Nat × Nat × (Nat → Nat)) (fun (x : Nat × Nat × (Nat → Nat)) => 1 ≤ x.fst) fun (x : Nat × Nat × (Nat → Nat)) => nN [qE (IntKind.i64.wrap (Int.ofNat 1 + IntKind.i64.wrap (de.tmod (Int.ofNat 4)))), qE (IntKind.i64.wrap (Int.ofNat 1 + (IntKind.i64.wrap ba).tmod (IntKind.i64.wrap (Int.ofNat 1 + IntKind.i64.wrap (de.tmod (Int.ofNat 4)))))), (1, .eq 1 1), qE x.fst, (1, .eq 0 0), qE x.snd.fst, qE len, qE cap, (1, .le 1 1)]
    (V.need (1 ≤ 1 ∧ 1 ≤ x.fst)
    (nN [(1, .pf (∀ (i e : Nat), i = 0 ∧ e < 1 → e = e) (by intros; rfl)), (1, .pf (∀ (i e : Nat), i = 0 ∧ e < 1 → 0 = 0) (by intros; rfl)), (1, .pf (∀ (i e : Nat), i = 0 ∧ e < 1 → x.snd.snd e = x.snd.snd e) (by intros; rfl)), (1, .le 1 1)]
    (V.need (0 ≤ 0 ∧ 0 ≤ x.snd.fst)
    (nN [(1, .pf (∀ (i e : Nat), i = 0 ∧ e < 0 → uP (fun (x : Nat) => Int.ofNat 0) 0 e = uP (fun (x : Nat) => Int.ofNat 0) 0 e) (by intros; rfl)), (1, .pf (∀ (i e : Nat), i = 0 ∧ e < 0 → uL (fun (x : Nat) => Int.ofNat 0) 0 e = uL (fun (x : Nat) => Int.ofNat 0) 0 e) (by intros; rfl)), (1, .pf (∀ (i e : Nat), i = 0 ∧ e < 0 → uD (fun (x : Nat) => Int.ofNat 0) 0 e = uD (fun (x : Nat) => Int.ofNat 0) 0 e) (by intros; rfl))]
    (V.need (∀ (i : Nat), i < 1 → 0 ≤ gd 1 (fun (x : Nat) => 0) i ∧ 0 ≤ gd 1 x.snd.snd i)
    (nN [(1, .pf (∀ (i e : Nat), i < 1 ∧ e < 0 → cO (fun (x : Nat) => Int.ofNat 0) 0 i e = cO (fun (x : Nat) => Int.ofNat 0) 0 i e) (by intros; rfl)), (1, .pf (∀ (i e : Nat), i < 1 ∧ e < 0 → cA (fun (x : Nat) => Int.ofNat 0) 0 i e = cA (fun (x : Nat) => Int.ofNat 0) 0 i e) (by intros; rfl)), (1, .pf (∀ (i e : Nat), i < 1 ∧ e < 0 → cB (fun (x : Nat) => Int.ofNat 0) 0 i e = cB (fun (x : Nat) => Int.ofNat 0) 0 i e) (by intros; rfl)), (1, .le 1 1), (1, .pf (∀ (i : Nat), i < 1 → len ≤ len) (by intros; exact Nat.le_refl _)), (1, .pf (∀ (i e : Nat), i < 1 ∧ e < len → g e = g e) (by intros; rfl))]
    (V.need (errE (c23 (Cf.mk (Int.ofNat 1) (Int.ofNat 3) (Int.ofNat 1) (Int.ofNat 8) (IntKind.i64.wrap (Int.ofNat 1 + IntKind.i64.wrap (de.tmod (Int.ofNat 4)))) (Int.ofNat 8) (IntKind.i64.wrap (Int.ofNat 1 + (IntKind.i64.wrap ba).tmod (IntKind.i64.wrap (Int.ofNat 1 + IntKind.i64.wrap (de.tmod (Int.ofNat 4)))))) (Int.ofNat 0) (Int.ofNat 1) 1 x.fst 0 x.snd.fst (fun (e : Nat) => 0) x.snd.snd (fun (i e : Nat) => cO (fun (x : Nat) => Int.ofNat 0) 0 i e) (fun (i e : Nat) => cA (fun (x : Nat) => Int.ofNat 0) 0 i e) (fun (i e : Nat) => cB (fun (x : Nat) => Int.ofNat 0) 0 i e) (fun (e : Nat) => uP (fun (x : Nat) => Int.ofNat 0) 0 e) (fun (e : Nat) => uL (fun (x : Nat) => Int.ofNat 0) 0 e) fun (e : Nat) => uD (fun (x : Nat) => Int.ofNat 0) 0 e)) = Int.ofNat 0)
    (V.need (∃ (x_1 : XFl), φFl (Cf.mk (Int.ofNat 1) (Int.ofNat 3) (Int.ofNat 1) (Int.ofNat 8) (IntKind.i64.wrap (Int.ofNat 1 + IntKind.i64.wrap (de.tmod (Int.ofNat 4)))) (Int.ofNat 8) (IntKind.i64.wrap (Int.ofNat 1 + (IntKind.i64.wrap ba).tmod (IntKind.i64.wrap (Int.ofNat 1 + IntKind.i64.wrap (de.tmod (Int.ofNat 4)))))) (Int.ofNat 0) (Int.ofNat 1) 1 x.fst 0 x.snd.fst (fun (e : Nat) => 0) x.snd.snd (fun (i e : Nat) => cO (fun (x : Nat) => Int.ofNat 0) 0 i e) (fun (i e : Nat) => cA (fun (x : Nat) => Int.ofNat 0) 0 i e) (fun (i e : Nat) => cB (fun (x : Nat) => Int.ofNat 0) 0 i e) (fun (e : Nat) => uP (fun (x : Nat) => Int.ofNat 0) 0 e) (fun (e : Nat) => uL (fun (x : Nat) => Int.ofNat 0) 0 e) fun (e : Nat) => uD (fun (x : Nat) => Int.ofNat 0) 0 e) g len x_1)
    (V.any XFl (φFl (Cf.mk (Int.ofNat 1) (Int.ofNat 3) (Int.ofNat 1) (Int.ofNat 8) (IntKind.i64.wrap (Int.ofNat 1 + IntKind.i64.wrap (de.tmod (Int.ofNat 4)))) (Int.ofNat 8) (IntKind.i64.wrap (Int.ofNat 1 + (IntKind.i64.wrap ba).tmod (IntKind.i64.wrap (Int.ofNat 1 + IntKind.i64.wrap (de.tmod (Int.ofNat 4)))))) (Int.ofNat 0) (Int.ofNat 1) 1 x.fst 0 x.snd.fst (fun (e : Nat) => 0) x.snd.snd (fun (i e : Nat) => cO (fun (x : Nat) => Int.ofNat 0) 0 i e) (fun (i e : Nat) => cA (fun (x : Nat) => Int.ofNat 0) 0 i e) (fun (i e : Nat) => cB (fun (x : Nat) => Int.ofNat 0) 0 i e) (fun (e : Nat) => uP (fun (x : Nat) => Int.ofNat 0) 0 e) (fun (e : Nat) => uL (fun (x : Nat) => Int.ofNat 0) 0 e) fun (e : Nat) => uD (fun (x : Nat) => Int.ofNat 0) 0 e) g len) fun (x_1 : XFl) => V.need True
    (V.need (Int.ofNat 400 = (↑400 : Int))
    (nN [(1, .eqI 1 1), (1, .eqI 3 3), (1, .eqI 8 8), qE (IntKind.i64.wrap (Int.ofNat 1 + IntKind.i64.wrap (de.tmod (Int.ofNat 4)))), (1, .eqI 8 8), qE (IntKind.i64.wrap (Int.ofNat 1 + (IntKind.i64.wrap ba).tmod (IntKind.i64.wrap (Int.ofNat 1 + IntKind.i64.wrap (de.tmod (Int.ofNat 4)))))), (1, .eqI 0 0), (1, .eqI 1 1), qE x_1.d.nP, qE x_1.d.rc, qE x_1.d.nU, qE x_1.d.cu, (1, .eqI 1 1), (1, .eqI 3 3), (1, .eqI 1 1), (1, .eqI 8 8), qE (IntKind.i64.wrap (Int.ofNat 1 + IntKind.i64.wrap (de.tmod (Int.ofNat 4)))), (1, .eqI 8 8), (1, .eqI 12 12), (1, .eqI 13 13), (1, .eqI 14 14), (1, .eqI 15 15), qE x_1.tb, (2, .eq 0 0), qE x_1.n, qE x_1.n, qE x_1.m.lk, qE x_1.m.lc, qE x_1.m.lo, qE x_1.m.ln, qE x_1.m.ct, qE x_1.n, qL x_1.n, qF x_1.n x_1.m.g, (1, .eq 0 0), (1, .le 0 0), qF 0 (fun (e : Nat) => Int.ofNat 0), qF 0 (fun (e : Nat) => Int.ofNat 0), qF 0 (fun (e : Nat) => Int.ofNat 0), qF 0 (fun (e : Nat) => Int.ofNat 0), qF 0 (fun (e : Nat) => Int.ofNat 0), (1, .le 0 1)]
    (V.need (0 ≤ x_1.d.nP ∧ 0 ≤ x_1.d.rc)
    (nN [(1, .le 0 1)]
    (V.need (0 ≤ x_1.d.nU ∧ 0 ≤ x_1.d.cu)
    (nN [(1, .eqI 0 0)]
    (V.need (preDt (dDt de) (bDt ba de) (min len 8) g (Ly.mk (Int.ofNat 1) (Int.ofNat 3) (Int.ofNat 1) (Int.ofNat 8) (IntKind.i64.wrap (Int.ofNat 1 + IntKind.i64.wrap (de.tmod (Int.ofNat 4)))) (Int.ofNat 8) (Int.ofNat 12) (Int.ofNat 13) (Int.ofNat 14) (Int.ofNat 15) x_1.tb) (IntKind.i64.wrap (Int.ofNat 1 + (IntKind.i64.wrap ba).tmod (IntKind.i64.wrap (Int.ofNat 1 + IntKind.i64.wrap (de.tmod (Int.ofNat 4)))))) x_1.n (Int.ofNat 0) 400 x_1.m (El.mk 0 (Evs.mk (fun (i : Nat) => Int.ofNat 0) (fun (i : Nat) => Int.ofNat 0) (fun (i : Nat) => Int.ofNat 0) (fun (i : Nat) => Int.ofNat 0) fun (i : Nat) => Int.ofNat 0)) 0)
    (V.br (decide (min len 8 = 0))
    (V.need (∃ (x : Re × Nat), φDz x)
    (V.any (Re × Nat) φDz fun (x : Re × Nat) => V.need ((0 ≤ x.fst.l.n ∧ 0 = 0 ∧ 0 ≤ 0) ∧ ∀ (j : Nat), j < 0 → Int.ofNat 0 = x.fst.l.v.t j)
    (V.need (Int.ofNat 0 = (↑0 : Int))
    (nN [(3, .eq 0 0), (1, .le 0 0), qF 0 (fun (e : Nat) => Int.ofNat 0)]
    (V.any XD1 (fun (x_2 : XD1) => (x_2.i ≤ x.fst.l.n ∧ x_2.n = x_2.i ∧ x_2.n ≤ x_2.cp) ∧ ∀ (j : Nat), j < x_2.n → x_2.a j = x.fst.l.v.t j) fun (x_2 : XD1) => nN [(3, .lt2 0 1 0 1)]
    (V.br (decide ((↑x_2.i : Int) < (↑x.fst.l.n : Int)))
    (nN [(3, .lt2 0 1 0 1)]
    (V.need (Int.ofNat 0 ≤ (↑x_2.i : Int) ∧ (↑x_2.i : Int) < (↑x.fst.l.n : Int))
    (V.need (0 < 1 ∧ 0 + (↑x_2.i : Int).toNat < x.fst.l.n)
    (V.need (0 < 1 ∧ 0 + (↑x_2.i : Int).toNat < x.fst.l.n)
    (V.need (0 < 1 ∧ 0 + (↑x_2.i : Int).toNat < x.fst.l.n)
    (V.br (x.fst.l.v.k (0 + (↑x_2.i : Int).toNat) == Int.ofNat 13)
    (nN [(3, .lt2 0 1 0 1)]
    (V.need (Int.ofNat 0 ≤ (↑x_2.i : Int) ∧ (↑x_2.i : Int) < (↑x.fst.l.n : Int))
    (V.need (0 < 1 ∧ 0 + (↑x_2.i : Int).toNat < x.fst.l.n)
    (V.need (0 < 1 ∧ 0 + (↑x_2.i : Int).toNat < x.fst.l.n)
    (V.need (0 < 1 ∧ 0 + (↑x_2.i : Int).toNat < x.fst.l.n)
    (nN [(1, .lt 0 1)]
    (V.need (x_2.n ≤ x_2.n ∧ x_2.cp = x_2.cp)
    (V.need (x_2.n + 1 ≤ 9223372036854775807 ∧ (x_2.n + 1) * 8 ≤ 140737488355328)
    (V.any Nat (fun (x : Nat) => x_2.n + 1 ≤ x) fun (x_3 : Nat) => V.need (((IntKind.i64.wrap ((↑x_2.i : Int) + Int.ofNat 1)).toNat ≤ x.fst.l.n ∧ x_2.n + 1 = (IntKind.i64.wrap ((↑x_2.i : Int) + Int.ofNat 1)).toNat ∧ x_2.n + 1 ≤ x_3) ∧ ∀ (j : Nat), j < x_2.n + 1 → (if 0 = 0 ∧ j = x_2.n then x.fst.l.v.t (0 + (↑x_2.i : Int).toNat) else x_2.a j) = x.fst.l.v.t j)
    (V.need (x.fst.l.n - (IntKind.i64.wrap ((↑x_2.i : Int) + Int.ofNat 1)).toNat < x.fst.l.n - x_2.i)
    (V.need (IntKind.i64.wrap ((↑x_2.i : Int) + Int.ofNat 1) = (↑(IntKind.i64.wrap ((↑x_2.i : Int) + Int.ofNat 1)).toNat : Int))
    (nN [qE (x_2.n + 1), qE x_3, qE x_3]
    (V.need (x_2.n + 1 ≤ x_2.n + 1)
    (V.need (∀ (e : Nat), e < x_2.n + 1 → (if 0 = 0 ∧ e = x_2.n then x.fst.l.v.t (0 + (↑x_2.i : Int).toNat) else x_2.a e) = if 0 = 0 ∧ e = x_2.n then x.fst.l.v.t (0 + (↑x_2.i : Int).toNat) else x_2.a e) V.ok))))))))))))))
    (V.need (((IntKind.i64.wrap ((↑x_2.i : Int) + Int.ofNat 1)).toNat ≤ x.fst.l.n ∧ x_2.n = (IntKind.i64.wrap ((↑x_2.i : Int) + Int.ofNat 1)).toNat ∧ x_2.n ≤ x_2.cp) ∧ ∀ (j : Nat), j < x_2.n → x_2.a j = x.fst.l.v.t j)
    (V.need (x.fst.l.n - (IntKind.i64.wrap ((↑x_2.i : Int) + Int.ofNat 1)).toNat < x.fst.l.n - x_2.i)
    (V.need (IntKind.i64.wrap ((↑x_2.i : Int) + Int.ofNat 1) = (↑(IntKind.i64.wrap ((↑x_2.i : Int) + Int.ofNat 1)).toNat : Int))
    (nN [qE x_2.n, qE x_2.cp, qE x_2.cp, qL x_2.n, qF x_2.n x_2.a] V.ok))))))))))
    (nN [(1, .eqI 2 2), qE x_1.n, qE x_1.n, qE x.fst.m.ct, (1, .le 1 1)]
    (V.need (x_1.n ≤ x_1.n ∧ x_1.n ≤ x_1.n)
    (nN [(1, .pf (∀ (i e : Nat), i = 0 ∧ e < x_1.n → x.fst.m.g e = x.fst.m.g e) (by intros; rfl)), qX (x.fst.m.val x_1.n (Int.ofNat 2))]
    (V.any Int (fun (v : Int) => v = x.fst.m.val x_1.n (Int.ofNat 2)) fun (x_3 : Int) => V.br (IntKind.i64.wrap x_3 != IntKind.i64.wrap (min (↑len : Int) (Int.ofNat 8) - (↑x_2.n : Int)))
    (V.bad 420)
    (nN [(1, .eqI 1 1), qE x_1.n, qE x_1.n, qE x.fst.m.ct, (1, .le 1 1)]
    (V.need (x_1.n ≤ x_1.n ∧ x_1.n ≤ x_1.n)
    (nN [(1, .pf (∀ (i e : Nat), i = 0 ∧ e < x_1.n → x.fst.m.g e = x.fst.m.g e) (by intros; rfl)), qX (x.fst.m.val x_1.n (Int.ofNat 1))]
    (V.any Int (fun (v : Int) => v = x.fst.m.val x_1.n (Int.ofNat 1)) fun (x : Int) => V.br (x != Int.ofNat 0)
    (V.bad 420)
    (V.br (min (↑len : Int) (Int.ofNat 8) == Int.ofNat 0)
    (V.need (((↑x_2.n : Int) == Int.ofNat 0) = true) V.ok)
    (V.bad 420))))))))))))))))
    (V.need (∃ (x : Re × Nat), φDt (dDt de) x_1.tb (bDt ba de) x_1.n (min len 8) g x)
    (V.any (Re × Nat) (φDt (dDt de) x_1.tb (bDt ba de) x_1.n (min len 8) g) fun (x_2 : Re × Nat) => V.need ((0 ≤ x_2.fst.l.n ∧ 0 = 0 ∧ 0 ≤ 0) ∧ ∀ (j : Nat), j < 0 → Int.ofNat 0 = x_2.fst.l.v.t j)
    (V.need (Int.ofNat 0 = (↑0 : Int))
    (nN [(3, .eq 0 0), (1, .le 0 0), qF 0 (fun (e : Nat) => Int.ofNat 0)]
    (V.any XD1 (fun (x : XD1) => (x.i ≤ x_2.fst.l.n ∧ x.n = x.i ∧ x.n ≤ x.cp) ∧ ∀ (j : Nat), j < x.n → x.a j = x_2.fst.l.v.t j) fun (x_3 : XD1) => nN [(3, .lt2 0 1 0 1)]
    (V.br (decide ((↑x_3.i : Int) < (↑x_2.fst.l.n : Int)))
    (nN [(3, .lt2 0 1 0 1)]
    (V.need (Int.ofNat 0 ≤ (↑x_3.i : Int) ∧ (↑x_3.i : Int) < (↑x_2.fst.l.n : Int))
    (V.need (0 < 1 ∧ 0 + (↑x_3.i : Int).toNat < x_2.fst.l.n)
    (V.need (0 < 1 ∧ 0 + (↑x_3.i : Int).toNat < x_2.fst.l.n)
    (V.need (0 < 1 ∧ 0 + (↑x_3.i : Int).toNat < x_2.fst.l.n)
    (V.br (x_2.fst.l.v.k (0 + (↑x_3.i : Int).toNat) == Int.ofNat 13)
    (nN [(3, .lt2 0 1 0 1)]
    (V.need (Int.ofNat 0 ≤ (↑x_3.i : Int) ∧ (↑x_3.i : Int) < (↑x_2.fst.l.n : Int))
    (V.need (0 < 1 ∧ 0 + (↑x_3.i : Int).toNat < x_2.fst.l.n)
    (V.need (0 < 1 ∧ 0 + (↑x_3.i : Int).toNat < x_2.fst.l.n)
    (V.need (0 < 1 ∧ 0 + (↑x_3.i : Int).toNat < x_2.fst.l.n)
    (nN [(1, .lt 0 1)]
    (V.need (x_3.n ≤ x_3.n ∧ x_3.cp = x_3.cp)
    (V.need (x_3.n + 1 ≤ 9223372036854775807 ∧ (x_3.n + 1) * 8 ≤ 140737488355328)
    (V.any Nat (fun (x : Nat) => x_3.n + 1 ≤ x) fun (x : Nat) => V.need (((IntKind.i64.wrap ((↑x_3.i : Int) + Int.ofNat 1)).toNat ≤ x_2.fst.l.n ∧ x_3.n + 1 = (IntKind.i64.wrap ((↑x_3.i : Int) + Int.ofNat 1)).toNat ∧ x_3.n + 1 ≤ x) ∧ ∀ (j : Nat), j < x_3.n + 1 → (if 0 = 0 ∧ j = x_3.n then x_2.fst.l.v.t (0 + (↑x_3.i : Int).toNat) else x_3.a j) = x_2.fst.l.v.t j)
    (V.need (x_2.fst.l.n - (IntKind.i64.wrap ((↑x_3.i : Int) + Int.ofNat 1)).toNat < x_2.fst.l.n - x_3.i)
    (V.need (IntKind.i64.wrap ((↑x_3.i : Int) + Int.ofNat 1) = (↑(IntKind.i64.wrap ((↑x_3.i : Int) + Int.ofNat 1)).toNat : Int))
    (nN [qE (x_3.n + 1), qE x, qE x]
    (V.need (x_3.n + 1 ≤ x_3.n + 1)
    (V.need (∀ (e : Nat), e < x_3.n + 1 → (if 0 = 0 ∧ e = x_3.n then x_2.fst.l.v.t (0 + (↑x_3.i : Int).toNat) else x_3.a e) = if 0 = 0 ∧ e = x_3.n then x_2.fst.l.v.t (0 + (↑x_3.i : Int).toNat) else x_3.a e) V.ok))))))))))))))
    (V.need (((IntKind.i64.wrap ((↑x_3.i : Int) + Int.ofNat 1)).toNat ≤ x_2.fst.l.n ∧ x_3.n = (IntKind.i64.wrap ((↑x_3.i : Int) + Int.ofNat 1)).toNat ∧ x_3.n ≤ x_3.cp) ∧ ∀ (j : Nat), j < x_3.n → x_3.a j = x_2.fst.l.v.t j)
    (V.need (x_2.fst.l.n - (IntKind.i64.wrap ((↑x_3.i : Int) + Int.ofNat 1)).toNat < x_2.fst.l.n - x_3.i)
    (V.need (IntKind.i64.wrap ((↑x_3.i : Int) + Int.ofNat 1) = (↑(IntKind.i64.wrap ((↑x_3.i : Int) + Int.ofNat 1)).toNat : Int))
    (nN [qE x_3.n, qE x_3.cp, qE x_3.cp, qL x_3.n, qF x_3.n x_3.a] V.ok))))))))))
    (nN [(1, .eqI 2 2), qE x_1.n, qE x_1.n, qE x_2.fst.m.ct, (1, .le 1 1)]
    (V.need (x_1.n ≤ x_1.n ∧ x_1.n ≤ x_1.n)
    (nN [(1, .pf (∀ (i e : Nat), i = 0 ∧ e < x_1.n → x_2.fst.m.g e = x_2.fst.m.g e) (by intros; rfl)), qX (x_2.fst.m.val x_1.n (Int.ofNat 2))]
    (V.any Int (fun (v : Int) => v = x_2.fst.m.val x_1.n (Int.ofNat 2)) fun (x_4 : Int) => V.br (IntKind.i64.wrap x_4 != IntKind.i64.wrap (min (↑len : Int) (Int.ofNat 8) - (↑x_3.n : Int)))
    (V.bad 420)
    (nN [(1, .eqI 1 1), qE x_1.n, qE x_1.n, qE x_2.fst.m.ct, (1, .le 1 1)]
    (V.need (x_1.n ≤ x_1.n ∧ x_1.n ≤ x_1.n)
    (nN [(1, .pf (∀ (i e : Nat), i = 0 ∧ e < x_1.n → x_2.fst.m.g e = x_2.fst.m.g e) (by intros; rfl)), qX (x_2.fst.m.val x_1.n (Int.ofNat 1))]
    (V.any Int (fun (v : Int) => v = x_2.fst.m.val x_1.n (Int.ofNat 1)) fun (x_5 : Int) => V.br (x_5 != Int.ofNat 0)
    (V.bad 420)
    (V.br (min (↑len : Int) (Int.ofNat 8) == Int.ofNat 0)
    (V.bad 420)
    (V.br (x_2.fst.v != (↑x_3.n : Int))
    (V.bad 420)
    (V.br (x_2.fst.v != min (IntKind.i64.wrap (Int.ofNat 1 + (IntKind.i64.wrap ba).tmod (IntKind.i64.wrap (Int.ofNat 1 + IntKind.i64.wrap (de.tmod (Int.ofNat 4)))))) (min (↑len : Int) (Int.ofNat 8)))
    (V.bad 420)
    (V.need (0 ≤ x_3.n ∧ (∀ (v : Nat), v < 3 → 0 = Proofs.YtomaagmleafjeaaGreat.Md.cntL (lvF g) (fun (e : Nat) => (x_3.a e).toNat) 0 v) ∧ (∀ (v : Nat), 0 ≤ 0) ∧ ∀ (i : Nat), i < 0 → Int.ofNat 0 = (↑(x_3.a i).toNat : Int))
    (V.need (Int.ofNat 0 = (↑0 : Int))
    (nN [(1, .eq 3 3), (1, .le 3 3), qF 3 (fun (e : Nat) => e), qF 3 (fun (e : Nat) => 0), qF 3 (fun (e : Nat) => 0)]
    (V.need (∀ (i : Nat), 0 = 0 ∨ 0 = 0)
    (V.need (∀ (i : Nat), 0 ≤ 0 ∧ 0 ≤ 0)
    (nN [(1, .pf (∀ (i e : Nat), e < 0 → Int.ofNat 0 = Int.ofNat 0) (by intros; rfl))]
    (V.any XD2 (okD2 g (fun (e : Nat) => (x_3.a e).toNat) x_3.n) fun (x_6 : XD2) => V.br (decide ((↑x_6.i : Int) < (↑x_3.n : Int)))
    (V.need (Int.ofNat 0 ≤ (↑x_6.i : Int) ∧ (↑x_6.i : Int) < (↑x_3.n : Int))
    (V.need (0 < 1 ∧ 0 + (↑x_6.i : Int).toNat < x_3.n)
    (V.need (0 < 1 ∧ 0 + (↑x_6.i : Int).toNat < x_3.n)
    (V.br (decide (x_3.a (0 + (↑x_6.i : Int).toNat) < Int.ofNat 0))
    (V.bad 420)
    (V.br (decide (x_3.a (0 + (↑x_6.i : Int).toNat) ≥ min (↑len : Int) (Int.ofNat 8)))
    (V.bad 420)
    (V.need (min (↑len : Int) (Int.ofNat 8) - (↑0 : Int)).NonNeg
    (V.need (Int.ofNat 0 = (↑0 : Int))
    (V.any Nat (fun (u : Nat) => (↑u : Int) ≤ min (↑len : Int) (Int.ofNat 8)) fun (x : Nat) => V.br (decide ((↑x : Int) < min (↑len : Int) (Int.ofNat 8)))
    (V.need ((↑0 : Int) ≤ (↑x_6.i : Int) + Int.ofNat 1 ∧ true = !usd (fun (e : Nat) => (x_3.a e).toNat) 0 (↑x : Int).toNat)
    (V.need (Int.ofNat 0 = (↑0 : Int))
    (nN [qE true]
    (V.any (Nat × Bool) (fun (x_7 : Nat × Bool) => (↑x_7.fst : Int) ≤ (↑x_6.i : Int) + Int.ofNat 1 ∧ x_7.snd = !usd (fun (e : Nat) => (x_3.a e).toNat) x_7.fst (↑x : Int).toNat) fun (x_7 : Nat × Bool) => V.br (decide ((↑x_7.fst : Int) ≤ (↑x_6.i : Int)))
    (V.br x_7.snd
    (V.need (Int.ofNat 0 ≤ (↑x_7.fst : Int) ∧ (↑x_7.fst : Int) < (↑x_3.n : Int))
    (V.need (0 < 1 ∧ 0 + (↑x_7.fst : Int).toNat < x_3.n)
    (V.need (0 < 1 ∧ 0 + (↑x_7.fst : Int).toNat < x_3.n)
    (V.need ((↑(IntKind.i64.wrap ((↑x_7.fst : Int) + Int.ofNat 1)).toNat : Int) ≤ (↑x_6.i : Int) + Int.ofNat 1 ∧ (x_3.a (0 + (↑x_7.fst : Int).toNat) != (↑x : Int)) = !usd (fun (e : Nat) => (x_3.a e).toNat) (IntKind.i64.wrap ((↑x_7.fst : Int) + Int.ofNat 1)).toNat (↑x : Int).toNat)
    (V.need (((↑x_6.i : Int) + Int.ofNat 1 - (↑(IntKind.i64.wrap ((↑x_7.fst : Int) + Int.ofNat 1)).toNat : Int)).toNat < ((↑x_6.i : Int) + Int.ofNat 1 - (↑x_7.fst : Int)).toNat)
    (V.need (IntKind.i64.wrap ((↑x_7.fst : Int) + Int.ofNat 1) = (↑(IntKind.i64.wrap ((↑x_7.fst : Int) + Int.ofNat 1)).toNat : Int))
    (nN [qE ((x_3.a (0 + (↑x_7.fst : Int).toNat) != (↑x : Int)))] V.ok)))))))
    (V.need ((↑(IntKind.i64.wrap ((↑x_7.fst : Int) + Int.ofNat 1)).toNat : Int) ≤ (↑x_6.i : Int) + Int.ofNat 1 ∧ false = !usd (fun (e : Nat) => (x_3.a e).toNat) (IntKind.i64.wrap ((↑x_7.fst : Int) + Int.ofNat 1)).toNat (↑x : Int).toNat)
    (V.need (((↑x_6.i : Int) + Int.ofNat 1 - (↑(IntKind.i64.wrap ((↑x_7.fst : Int) + Int.ofNat 1)).toNat : Int)).toNat < ((↑x_6.i : Int) + Int.ofNat 1 - (↑x_7.fst : Int)).toNat)
    (V.need (IntKind.i64.wrap ((↑x_7.fst : Int) + Int.ofNat 1) = (↑(IntKind.i64.wrap ((↑x_7.fst : Int) + Int.ofNat 1)).toNat : Int))
    (nN [qE false] V.ok)))))
    (V.br x_7.snd
    (V.need (Int.ofNat 0 ≤ (↑x : Int) ∧ (↑x : Int) < (↑len : Int))
    (V.need (0 < 1 ∧ 0 + (↑x : Int).toNat < len)
    (V.need (0 < 1 ∧ 0 + (↑x : Int).toNat < len)
    (nN [(1, .neI 3 0), (1, .neI 8 0)]
    (V.need (Int.ofNat 0 ≤ x_3.a (0 + (↑x_6.i : Int).toNat) ∧ x_3.a (0 + (↑x_6.i : Int).toNat) < (↑len : Int))
    (V.need (0 < 1 ∧ 0 + (x_3.a (0 + (↑x_6.i : Int).toNat)).toNat < len)
    (V.need (0 < 1 ∧ 0 + (x_3.a (0 + (↑x_6.i : Int).toNat)).toNat < len)
    (nN [(1, .neI 3 0), (1, .neI 8 0)]
    (V.br (decide ((IntKind.u8.wrap ((g (0 + (↑x : Int).toNat)).tdiv (Int.ofNat 3))).tmod (Int.ofNat 8) < (IntKind.u8.wrap ((g (0 + (x_3.a (0 + (↑x_6.i : Int).toNat)).toNat)).tdiv (Int.ofNat 3))).tmod (Int.ofNat 8)))
    (V.bad 420)
    (V.need (Int.ofNat 0 ≤ (↑x : Int) ∧ (↑x : Int) < (↑len : Int))
    (V.need (0 < 1 ∧ 0 + (↑x : Int).toNat < len)
    (V.need (0 < 1 ∧ 0 + (↑x : Int).toNat < len)
    (nN [(1, .neI 3 0), (1, .neI 8 0)]
    (V.need (Int.ofNat 0 ≤ x_3.a (0 + (↑x_6.i : Int).toNat) ∧ x_3.a (0 + (↑x_6.i : Int).toNat) < (↑len : Int))
    (V.need (0 < 1 ∧ 0 + (x_3.a (0 + (↑x_6.i : Int).toNat)).toNat < len)
    (V.need (0 < 1 ∧ 0 + (x_3.a (0 + (↑x_6.i : Int).toNat)).toNat < len)
    (nN [(1, .neI 3 0), (1, .neI 8 0)]
    (V.br ((IntKind.u8.wrap ((g (0 + (↑x : Int).toNat)).tdiv (Int.ofNat 3))).tmod (Int.ofNat 8) == (IntKind.u8.wrap ((g (0 + (x_3.a (0 + (↑x_6.i : Int).toNat)).toNat)).tdiv (Int.ofNat 3))).tmod (Int.ofNat 8))
    (V.br (decide ((↑x : Int) < x_3.a (0 + (↑x_6.i : Int).toNat)))
    (V.bad 420)
    (V.need (min (↑len : Int) (Int.ofNat 8) - (↑(IntKind.i64.wrap ((↑x : Int) + Int.ofNat 1)).toNat : Int)).NonNeg
    (V.need ((min (↑len : Int) (Int.ofNat 8) - (↑(IntKind.i64.wrap ((↑x : Int) + Int.ofNat 1)).toNat : Int)).toNat < (min (↑len : Int) (Int.ofNat 8) - (↑x : Int)).toNat)
    (V.need (IntKind.i64.wrap ((↑x : Int) + Int.ofNat 1) = (↑(IntKind.i64.wrap ((↑x : Int) + Int.ofNat 1)).toNat : Int)) V.ok))))
    (V.need (min (↑len : Int) (Int.ofNat 8) - (↑(IntKind.i64.wrap ((↑x : Int) + Int.ofNat 1)).toNat : Int)).NonNeg
    (V.need ((min (↑len : Int) (Int.ofNat 8) - (↑(IntKind.i64.wrap ((↑x : Int) + Int.ofNat 1)).toNat : Int)).toNat < (min (↑len : Int) (Int.ofNat 8) - (↑x : Int)).toNat)
    (V.need (IntKind.i64.wrap ((↑x : Int) + Int.ofNat 1) = (↑(IntKind.i64.wrap ((↑x : Int) + Int.ofNat 1)).toNat : Int)) V.ok)))))))))))))))))))))
    (V.need (min (↑len : Int) (Int.ofNat 8) - (↑(IntKind.i64.wrap ((↑x : Int) + Int.ofNat 1)).toNat : Int)).NonNeg
    (V.need ((min (↑len : Int) (Int.ofNat 8) - (↑(IntKind.i64.wrap ((↑x : Int) + Int.ofNat 1)).toNat : Int)).toNat < (min (↑len : Int) (Int.ofNat 8) - (↑x : Int)).toNat)
    (V.need (IntKind.i64.wrap ((↑x : Int) + Int.ofNat 1) = (↑(IntKind.i64.wrap ((↑x : Int) + Int.ofNat 1)).toNat : Int)) V.ok))))))))
    (V.need (Int.ofNat 0 ≤ x_3.a (0 + (↑x_6.i : Int).toNat) ∧ x_3.a (0 + (↑x_6.i : Int).toNat) < (↑len : Int))
    (V.need (0 < 1 ∧ 0 + (x_3.a (0 + (↑x_6.i : Int).toNat)).toNat < len)
    (V.need (0 < 1 ∧ 0 + (x_3.a (0 + (↑x_6.i : Int).toNat)).toNat < len)
    (nN [(1, .neI 3 0)]
    (V.need (Int.ofNat 0 ≤ x_3.a (0 + (↑x_6.i : Int).toNat) ∧ x_3.a (0 + (↑x_6.i : Int).toNat) < (↑len : Int))
    (V.need (0 < 1 ∧ 0 + (x_3.a (0 + (↑x_6.i : Int).toNat)).toNat < len)
    (V.need (0 < 1 ∧ 0 + (x_3.a (0 + (↑x_6.i : Int).toNat)).toNat < len)
    (nN [(1, .neI 3 0)]
    (V.need (Int.ofNat 0 ≤ (g (0 + (x_3.a (0 + (↑x_6.i : Int).toNat)).toNat)).tmod (Int.ofNat 3) ∧ (g (0 + (x_3.a (0 + (↑x_6.i : Int).toNat)).toNat)).tmod (Int.ofNat 3) < (↑3 : Int))
    (V.need (0 < 1 ∧ 0 + ((g (0 + (x_3.a (0 + (↑x_6.i : Int).toNat)).toNat)).tmod (Int.ofNat 3)).toNat < 3)
    (V.need (0 < 1 ∧ 0 + ((g (0 + (x_3.a (0 + (↑x_6.i : Int).toNat)).toNat)).tmod (Int.ofNat 3)).toNat < 3)
    (nN [(1, .lt2 0 1 0 1)]
    (V.need (x_6.ls (0 + ((g (0 + (x_3.a (0 + (↑x_6.i : Int).toNat)).toNat)).tmod (Int.ofNat 3)).toNat) ≤ x_6.ls (0 + ((g (0 + (x_3.a (0 + (↑x_6.i : Int).toNat)).toNat)).tmod (Int.ofNat 3)).toNat) ∧ x_6.cp (0 + ((g (0 + (x_3.a (0 + (↑x_6.i : Int).toNat)).toNat)).tmod (Int.ofNat 3)).toNat) = x_6.cp (0 + ((g (0 + (x_3.a (0 + (↑x_6.i : Int).toNat)).toNat)).tmod (Int.ofNat 3)).toNat))
    (V.need (x_6.ls (0 + ((g (0 + (x_3.a (0 + (↑x_6.i : Int).toNat)).toNat)).tmod (Int.ofNat 3)).toNat) + 1 ≤ 9223372036854775807 ∧ (x_6.ls (0 + ((g (0 + (x_3.a (0 + (↑x_6.i : Int).toNat)).toNat)).tmod (Int.ofNat 3)).toNat) + 1) * 8 ≤ 140737488355328)
    (V.any Nat (fun (x : Nat) => x_6.ls (0 + ((g (0 + (x_3.a (0 + (↑x_6.i : Int).toNat)).toNat)).tmod (Int.ofNat 3)).toNat) + 1 ≤ x) fun (x : Nat) => V.need (Int.ofNat 0 ≤ (g (0 + (x_3.a (0 + (↑x_6.i : Int).toNat)).toNat)).tmod (Int.ofNat 3) ∧ (g (0 + (x_3.a (0 + (↑x_6.i : Int).toNat)).toNat)).tmod (Int.ofNat 3) < (↑3 : Int))
    (V.need (0 < 1 ∧ 0 + ((g (0 + (x_3.a (0 + (↑x_6.i : Int).toNat)).toNat)).tmod (Int.ofNat 3)).toNat < 3)
    (V.need (0 + ((g (0 + (x_3.a (0 + (↑x_6.i : Int).toNat)).toNat)).tmod (Int.ofNat 3)).toNat < 3)
    (V.need (True ∧ ∀ (i e : Nat), i = 0 ∧ e < 3 → ¬(i = 0 ∧ e = 0 + ((g (0 + (x_3.a (0 + (↑x_6.i : Int).toNat)).toNat)).tmod (Int.ofNat 3)).toNat) → e ≠ 0 + ((g (0 + (x_3.a (0 + (↑x_6.i : Int).toNat)).toNat)).tmod (Int.ofNat 3)).toNat)
    (V.need ((IntKind.i64.wrap ((↑x_6.i : Int) + Int.ofNat 1)).toNat ≤ x_3.n ∧ (∀ (v : Nat), v < 3 → (if 0 = 0 ∧ v = 0 + ((g (0 + (x_3.a (0 + (↑x_6.i : Int).toNat)).toNat)).tmod (Int.ofNat 3)).toNat then x_6.ls (0 + ((g (0 + (x_3.a (0 + (↑x_6.i : Int).toNat)).toNat)).tmod (Int.ofNat 3)).toNat) + 1 else x_6.ls v) = Proofs.YtomaagmleafjeaaGreat.Md.cntL (lvF g) (fun (e : Nat) => (x_3.a e).toNat) (IntKind.i64.wrap ((↑x_6.i : Int) + Int.ofNat 1)).toNat v) ∧ (∀ (v : Nat), (if 0 = 0 ∧ v = 0 + ((g (0 + (x_3.a (0 + (↑x_6.i : Int).toNat)).toNat)).tmod (Int.ofNat 3)).toNat then x_6.ls (0 + ((g (0 + (x_3.a (0 + (↑x_6.i : Int).toNat)).toNat)).tmod (Int.ofNat 3)).toNat) + 1 else x_6.ls v) ≤ if v = 0 + ((g (0 + (x_3.a (0 + (↑x_6.i : Int).toNat)).toNat)).tmod (Int.ofNat 3)).toNat then x else if v = 0 + ((g (0 + (x_3.a (0 + (↑x_6.i : Int).toNat)).toNat)).tmod (Int.ofNat 3)).toNat then 0 else x_6.cp v) ∧ ∀ (i : Nat), i < (IntKind.i64.wrap ((↑x_6.i : Int) + Int.ofNat 1)).toNat → (if lvF g (x_3.a i).toNat = 0 + ((g (0 + (x_3.a (0 + (↑x_6.i : Int).toNat)).toNat)).tmod (Int.ofNat 3)).toNat then if 0 = 0 ∧ Proofs.YtomaagmleafjeaaGreat.Md.cntL (lvF g) (fun (e : Nat) => (x_3.a e).toNat) i (lvF g (x_3.a i).toNat) = x_6.ls (0 + ((g (0 + (x_3.a (0 + (↑x_6.i : Int).toNat)).toNat)).tmod (Int.ofNat 3)).toNat) then x_3.a (0 + (↑x_6.i : Int).toNat) else x_6.S (0 + ((g (0 + (x_3.a (0 + (↑x_6.i : Int).toNat)).toNat)).tmod (Int.ofNat 3)).toNat) (Proofs.YtomaagmleafjeaaGreat.Md.cntL (lvF g) (fun (e : Nat) => (x_3.a e).toNat) i (lvF g (x_3.a i).toNat)) else x_6.S (lvF g (x_3.a i).toNat) (Proofs.YtomaagmleafjeaaGreat.Md.cntL (lvF g) (fun (e : Nat) => (x_3.a e).toNat) i (lvF g (x_3.a i).toNat))) = (↑(x_3.a i).toNat : Int))
    (V.need (x_3.n - (IntKind.i64.wrap ((↑x_6.i : Int) + Int.ofNat 1)).toNat < x_3.n - x_6.i)
    (V.need (IntKind.i64.wrap ((↑x_6.i : Int) + Int.ofNat 1) = (↑(IntKind.i64.wrap ((↑x_6.i : Int) + Int.ofNat 1)).toNat : Int))
    (nN [(1, .eq 3 3), (1, .le 3 3), qF 3 (fun (e : Nat) => e)]
    (V.need (∀ (e : Nat), e < 3 → (if 0 = 0 ∧ e = 0 + ((g (0 + (x_3.a (0 + (↑x_6.i : Int).toNat)).toNat)).tmod (Int.ofNat 3)).toNat then x_6.ls (0 + ((g (0 + (x_3.a (0 + (↑x_6.i : Int).toNat)).toNat)).tmod (Int.ofNat 3)).toNat) + 1 else x_6.ls e) = if 0 = 0 ∧ e = 0 + ((g (0 + (x_3.a (0 + (↑x_6.i : Int).toNat)).toNat)).tmod (Int.ofNat 3)).toNat then x_6.ls (0 + ((g (0 + (x_3.a (0 + (↑x_6.i : Int).toNat)).toNat)).tmod (Int.ofNat 3)).toNat) + 1 else x_6.ls e)
    (V.need (∀ (e : Nat), e < 3 → (if 0 = 0 ∧ e = 0 + ((g (0 + (x_3.a (0 + (↑x_6.i : Int).toNat)).toNat)).tmod (Int.ofNat 3)).toNat then x else x_6.cp e) = if e = 0 + ((g (0 + (x_3.a (0 + (↑x_6.i : Int).toNat)).toNat)).tmod (Int.ofNat 3)).toNat then x else if e = 0 + ((g (0 + (x_3.a (0 + (↑x_6.i : Int).toNat)).toNat)).tmod (Int.ofNat 3)).toNat then 0 else x_6.cp e)
    (V.need (∀ (i : Nat), ((if i = 0 + ((g (0 + (x_3.a (0 + (↑x_6.i : Int).toNat)).toNat)).tmod (Int.ofNat 3)).toNat then x else if i = 0 + ((g (0 + (x_3.a (0 + (↑x_6.i : Int).toNat)).toNat)).tmod (Int.ofNat 3)).toNat then 0 else x_6.cp i) = if i = 0 + ((g (0 + (x_3.a (0 + (↑x_6.i : Int).toNat)).toNat)).tmod (Int.ofNat 3)).toNat then x else if i = 0 + ((g (0 + (x_3.a (0 + (↑x_6.i : Int).toNat)).toNat)).tmod (Int.ofNat 3)).toNat then 0 else x_6.cp i) ∨ (if i = 0 + ((g (0 + (x_3.a (0 + (↑x_6.i : Int).toNat)).toNat)).tmod (Int.ofNat 3)).toNat then x else if i = 0 + ((g (0 + (x_3.a (0 + (↑x_6.i : Int).toNat)).toNat)).tmod (Int.ofNat 3)).toNat then 0 else x_6.cp i) = 0)
    (V.need (∀ (i : Nat), ((if 0 = 0 ∧ i = 0 + ((g (0 + (x_3.a (0 + (↑x_6.i : Int).toNat)).toNat)).tmod (Int.ofNat 3)).toNat then x_6.ls (0 + ((g (0 + (x_3.a (0 + (↑x_6.i : Int).toNat)).toNat)).tmod (Int.ofNat 3)).toNat) + 1 else x_6.ls i) ≤ if i = 0 + ((g (0 + (x_3.a (0 + (↑x_6.i : Int).toNat)).toNat)).tmod (Int.ofNat 3)).toNat then x else if i = 0 + ((g (0 + (x_3.a (0 + (↑x_6.i : Int).toNat)).toNat)).tmod (Int.ofNat 3)).toNat then 0 else x_6.cp i) ∧ (if 0 = 0 ∧ i = 0 + ((g (0 + (x_3.a (0 + (↑x_6.i : Int).toNat)).toNat)).tmod (Int.ofNat 3)).toNat then x_6.ls (0 + ((g (0 + (x_3.a (0 + (↑x_6.i : Int).toNat)).toNat)).tmod (Int.ofNat 3)).toNat) + 1 else x_6.ls i) ≤ if i = 0 + ((g (0 + (x_3.a (0 + (↑x_6.i : Int).toNat)).toNat)).tmod (Int.ofNat 3)).toNat then x_6.ls (0 + ((g (0 + (x_3.a (0 + (↑x_6.i : Int).toNat)).toNat)).tmod (Int.ofNat 3)).toNat) + 1 else if i = 0 + ((g (0 + (x_3.a (0 + (↑x_6.i : Int).toNat)).toNat)).tmod (Int.ofNat 3)).toNat then 0 else x_6.ls i)
    (V.need (∀ (i e : Nat), (e < if 0 = 0 ∧ i = 0 + ((g (0 + (x_3.a (0 + (↑x_6.i : Int).toNat)).toNat)).tmod (Int.ofNat 3)).toNat then x_6.ls (0 + ((g (0 + (x_3.a (0 + (↑x_6.i : Int).toNat)).toNat)).tmod (Int.ofNat 3)).toNat) + 1 else x_6.ls i) → (if i = 0 + ((g (0 + (x_3.a (0 + (↑x_6.i : Int).toNat)).toNat)).tmod (Int.ofNat 3)).toNat then if 0 = 0 ∧ e = x_6.ls (0 + ((g (0 + (x_3.a (0 + (↑x_6.i : Int).toNat)).toNat)).tmod (Int.ofNat 3)).toNat) then x_3.a (0 + (↑x_6.i : Int).toNat) else x_6.S (0 + ((g (0 + (x_3.a (0 + (↑x_6.i : Int).toNat)).toNat)).tmod (Int.ofNat 3)).toNat) e else x_6.S i e) = if i = 0 + ((g (0 + (x_3.a (0 + (↑x_6.i : Int).toNat)).toNat)).tmod (Int.ofNat 3)).toNat then if 0 = 0 ∧ e = x_6.ls (0 + ((g (0 + (x_3.a (0 + (↑x_6.i : Int).toNat)).toNat)).tmod (Int.ofNat 3)).toNat) then x_3.a (0 + (↑x_6.i : Int).toNat) else x_6.S (0 + ((g (0 + (x_3.a (0 + (↑x_6.i : Int).toNat)).toNat)).tmod (Int.ofNat 3)).toNat) e else x_6.S i e) V.ok)))))))))))))))))))))))))))))))))))
    (V.need (Nat.le 0 3)
    (V.need (Int.ofNat 0 = (↑0 : Int))
    (V.any Nat (fun (l : Nat) => l ≤ 3) fun (x_7 : Nat) => V.br (decide ((↑x_7 : Int) < Int.ofNat 3))
    (nN [(17, .lt2 0 1 0 1), qE x_1.n, qE x_1.n, (1, .le 1 1), (1, .pf (∀ (i : Nat), i < 1 → x_1.n ≤ x_1.n) (by intros; exact Nat.le_refl _)), (1, .pf (∀ (i e : Nat), i < 1 ∧ e < x_1.n → x_2.fst.m.g e = x_2.fst.m.g e) (by intros; rfl))]
    (V.need (x_1.n ≤ 1000000)
    (V.need (∃ (x : Nat), x_1.n ≤ x)
    (V.any Nat (fun (c : Nat) => x_1.n ≤ c) fun (x_8 : Nat) => nN [(1, .eqI 1 1), (1, .eqI 3 3), (1, .eqI 1 1), (1, .eqI 8 8), qE (IntKind.i64.wrap (Int.ofNat 1 + IntKind.i64.wrap (de.tmod (Int.ofNat 4)))), (1, .eqI 8 8), qE (IntKind.i64.wrap (Int.ofNat 1 + (IntKind.i64.wrap ba).tmod (IntKind.i64.wrap (Int.ofNat 1 + IntKind.i64.wrap (de.tmod (Int.ofNat 4)))))), (1, .eqI 0 0), (1, .eqI 1 1), (1, .eq 1 1), qE x.fst, (1, .eq 0 0), qE x.snd.fst, qE x_1.n, qE x_8, qE ((↑x_7 : Int)), (1, .le 1 1), (1, .pf (∀ (i : Nat), i < 1 → 1 ≤ 1) (by intros; exact Nat.le_refl _)), (1, .pf (∀ (i e : Nat), i < 1 ∧ e < 1 → e = e) (by intros; rfl)), (1, .pf (∀ (i e : Nat), i < 1 ∧ e < 1 → 0 = 0) (by intros; rfl)), (1, .pf (∀ (i e : Nat), i < 1 ∧ e < 1 → x.snd.snd e = x.snd.snd e) (by intros; rfl)), (1, .le 1 1), (1, .pf (∀ (i : Nat), i < 1 → 0 ≤ 0) (by intros; exact Nat.le_refl _)), (1, .pf (∀ (i e : Nat), i < 1 ∧ e < 0 → uP (fun (x : Nat) => Int.ofNat 0) 0 e = uP (fun (x : Nat) => Int.ofNat 0) 0 e) (by intros; rfl)), (1, .pf (∀ (i e : Nat), i < 1 ∧ e < 0 → uL (fun (x : Nat) => Int.ofNat 0) 0 e = uL (fun (x : Nat) => Int.ofNat 0) 0 e) (by intros; rfl)), (1, .pf (∀ (i e : Nat), i < 1 ∧ e < 0 → uD (fun (x : Nat) => Int.ofNat 0) 0 e = uD (fun (x : Nat) => Int.ofNat 0) 0 e) (by intros; rfl))]
    (V.need (∀ (i : Nat), i < 1 → 0 ≤ gd 1 (fun (x : Nat) => 0) i ∧ 0 ≤ gd 1 x.snd.snd i)
    (nN [(1, .pf (∀ (i e : Nat), i < 1 ∧ e < 0 → cO (fun (x : Nat) => Int.ofNat 0) 0 i e = cO (fun (x : Nat) => Int.ofNat 0) 0 i e) (by intros; rfl)), (1, .pf (∀ (i e : Nat), i < 1 ∧ e < 0 → cA (fun (x : Nat) => Int.ofNat 0) 0 i e = cA (fun (x : Nat) => Int.ofNat 0) 0 i e) (by intros; rfl)), (1, .pf (∀ (i e : Nat), i < 1 ∧ e < 0 → cB (fun (x : Nat) => Int.ofNat 0) 0 i e = cB (fun (x : Nat) => Int.ofNat 0) 0 i e) (by intros; rfl)), (1, .le 1 1), (1, .pf (∀ (i : Nat), i < 1 → x_1.n ≤ x_1.n) (by intros; exact Nat.le_refl _)), (1, .pf (∀ (i e : Nat), i < 1 ∧ e < x_1.n → x_2.fst.m.g e = x_2.fst.m.g e) (by intros; rfl))]
    (V.need (preEnt (Cf.mk (Int.ofNat 1) (Int.ofNat 3) (Int.ofNat 1) (Int.ofNat 8) (IntKind.i64.wrap (Int.ofNat 1 + IntKind.i64.wrap (de.tmod (Int.ofNat 4)))) (Int.ofNat 8) (IntKind.i64.wrap (Int.ofNat 1 + (IntKind.i64.wrap ba).tmod (IntKind.i64.wrap (Int.ofNat 1 + IntKind.i64.wrap (de.tmod (Int.ofNat 4)))))) (Int.ofNat 0) (Int.ofNat 1) 1 x.fst 0 x.snd.fst (fun (e : Nat) => 0) x.snd.snd (fun (i e : Nat) => cO (fun (x : Nat) => Int.ofNat 0) 0 i e) (fun (i e : Nat) => cA (fun (x : Nat) => Int.ofNat 0) 0 i e) (fun (i e : Nat) => cB (fun (x : Nat) => Int.ofNat 0) 0 i e) (fun (e : Nat) => uP (fun (x : Nat) => Int.ofNat 0) 0 e) (fun (e : Nat) => uL (fun (x : Nat) => Int.ofNat 0) 0 e) fun (e : Nat) => uD (fun (x : Nat) => Int.ofNat 0) 0 e) x_1.n x_2.fst.m.g (↑x_7 : Int))
    (V.br (decide (Int.ofNat 1 ≤ entN (Cf.mk (Int.ofNat 1) (Int.ofNat 3) (Int.ofNat 1) (Int.ofNat 8) (IntKind.i64.wrap (Int.ofNat 1 + IntKind.i64.wrap (de.tmod (Int.ofNat 4)))) (Int.ofNat 8) (IntKind.i64.wrap (Int.ofNat 1 + (IntKind.i64.wrap ba).tmod (IntKind.i64.wrap (Int.ofNat 1 + IntKind.i64.wrap (de.tmod (Int.ofNat 4)))))) (Int.ofNat 0) (Int.ofNat 1) 1 x.fst 0 x.snd.fst (fun (e : Nat) => 0) x.snd.snd (fun (i e : Nat) => cO (fun (x : Nat) => Int.ofNat 0) 0 i e) (fun (i e : Nat) => cA (fun (x : Nat) => Int.ofNat 0) 0 i e) (fun (i e : Nat) => cB (fun (x : Nat) => Int.ofNat 0) 0 i e) (fun (e : Nat) => uP (fun (x : Nat) => Int.ofNat 0) 0 e) (fun (e : Nat) => uL (fun (x : Nat) => Int.ofNat 0) 0 e) fun (e : Nat) => uD (fun (x : Nat) => Int.ofNat 0) 0 e) x_2.fst.m.g (↑x_7 : Int) ∧ entN (Cf.mk (Int.ofNat 1) (Int.ofNat 3) (Int.ofNat 1) (Int.ofNat 8) (IntKind.i64.wrap (Int.ofNat 1 + IntKind.i64.wrap (de.tmod (Int.ofNat 4)))) (Int.ofNat 8) (IntKind.i64.wrap (Int.ofNat 1 + (IntKind.i64.wrap ba).tmod (IntKind.i64.wrap (Int.ofNat 1 + IntKind.i64.wrap (de.tmod (Int.ofNat 4)))))) (Int.ofNat 0) (Int.ofNat 1) 1 x.fst 0 x.snd.fst (fun (e : Nat) => 0) x.snd.snd (fun (i e : Nat) => cO (fun (x : Nat) => Int.ofNat 0) 0 i e) (fun (i e : Nat) => cA (fun (x : Nat) => Int.ofNat 0) 0 i e) (fun (i e : Nat) => cB (fun (x : Nat) => Int.ofNat 0) 0 i e) (fun (e : Nat) => uP (fun (x : Nat) => Int.ofNat 0) 0 e) (fun (e : Nat) => uL (fun (x : Nat) => Int.ofNat 0) 0 e) fun (e : Nat) => uD (fun (x : Nat) => Int.ofNat 0) 0 e) x_2.fst.m.g (↑x_7 : Int) ≤ IntKind.i64.wrap (Int.ofNat 1 + IntKind.i64.wrap (de.tmod (Int.ofNat 4)))))
    (V.need (∃ (x_9 : Nat), (entN (Cf.mk (Int.ofNat 1) (Int.ofNat 3) (Int.ofNat 1) (Int.ofNat 8) (IntKind.i64.wrap (Int.ofNat 1 + IntKind.i64.wrap (de.tmod (Int.ofNat 4)))) (Int.ofNat 8) (IntKind.i64.wrap (Int.ofNat 1 + (IntKind.i64.wrap ba).tmod (IntKind.i64.wrap (Int.ofNat 1 + IntKind.i64.wrap (de.tmod (Int.ofNat 4)))))) (Int.ofNat 0) (Int.ofNat 1) 1 x.fst 0 x.snd.fst (fun (e : Nat) => 0) x.snd.snd (fun (i e : Nat) => cO (fun (x : Nat) => Int.ofNat 0) 0 i e) (fun (i e : Nat) => cA (fun (x : Nat) => Int.ofNat 0) 0 i e) (fun (i e : Nat) => cB (fun (x : Nat) => Int.ofNat 0) 0 i e) (fun (e : Nat) => uP (fun (x : Nat) => Int.ofNat 0) 0 e) (fun (e : Nat) => uL (fun (x : Nat) => Int.ofNat 0) 0 e) fun (e : Nat) => uD (fun (x : Nat) => Int.ofNat 0) 0 e) x_2.fst.m.g (↑x_7 : Int)).toNat ≤ x_9)
    (V.any Nat (fun (cp : Nat) => (entN (Cf.mk (Int.ofNat 1) (Int.ofNat 3) (Int.ofNat 1) (Int.ofNat 8) (IntKind.i64.wrap (Int.ofNat 1 + IntKind.i64.wrap (de.tmod (Int.ofNat 4)))) (Int.ofNat 8) (IntKind.i64.wrap (Int.ofNat 1 + (IntKind.i64.wrap ba).tmod (IntKind.i64.wrap (Int.ofNat 1 + IntKind.i64.wrap (de.tmod (Int.ofNat 4)))))) (Int.ofNat 0) (Int.ofNat 1) 1 x.fst 0 x.snd.fst (fun (e : Nat) => 0) x.snd.snd (fun (i e : Nat) => cO (fun (x : Nat) => Int.ofNat 0) 0 i e) (fun (i e : Nat) => cA (fun (x : Nat) => Int.ofNat 0) 0 i e) (fun (i e : Nat) => cB (fun (x : Nat) => Int.ofNat 0) 0 i e) (fun (e : Nat) => uP (fun (x : Nat) => Int.ofNat 0) 0 e) (fun (e : Nat) => uL (fun (x : Nat) => Int.ofNat 0) 0 e) fun (e : Nat) => uD (fun (x : Nat) => Int.ofNat 0) 0 e) x_2.fst.m.g (↑x_7 : Int)).toNat ≤ cp) fun (x_9 : Nat) => V.need (Int.ofNat 0 ≤ (↑x_7 : Int) ∧ (↑x_7 : Int) < (↑3 : Int))
    (V.need (0 < 1 ∧ 0 + (↑x_7 : Int).toNat < 3)
    (V.need (0 < 1 ∧ 0 + (↑x_7 : Int).toNat < 3)
    (nN [qE ((entN (Cf.mk (Int.ofNat 1) (Int.ofNat 3) (Int.ofNat 1) (Int.ofNat 8) (IntKind.i64.wrap (Int.ofNat 1 + IntKind.i64.wrap (de.tmod (Int.ofNat 4)))) (Int.ofNat 8) (IntKind.i64.wrap (Int.ofNat 1 + (IntKind.i64.wrap ba).tmod (IntKind.i64.wrap (Int.ofNat 1 + IntKind.i64.wrap (de.tmod (Int.ofNat 4)))))) (Int.ofNat 0) (Int.ofNat 1) 1 x.fst 0 x.snd.fst (fun (e : Nat) => 0) x.snd.snd (fun (i e : Nat) => cO (fun (x : Nat) => Int.ofNat 0) 0 i e) (fun (i e : Nat) => cA (fun (x : Nat) => Int.ofNat 0) 0 i e) (fun (i e : Nat) => cB (fun (x : Nat) => Int.ofNat 0) 0 i e) (fun (e : Nat) => uP (fun (x : Nat) => Int.ofNat 0) 0 e) (fun (e : Nat) => uL (fun (x : Nat) => Int.ofNat 0) 0 e) fun (e : Nat) => uD (fun (x : Nat) => Int.ofNat 0) 0 e) x_2.fst.m.g (↑x_7 : Int)).toNat), qE x_9, qE (0 + (↑x_7 : Int).toNat), qE (x_6.ls (0 + (↑x_7 : Int).toNat)), qE (x_6.cp (0 + (↑x_7 : Int).toNat)), (1, .le 1 1)]
    (V.need ((entN (Cf.mk (Int.ofNat 1) (Int.ofNat 3) (Int.ofNat 1) (Int.ofNat 8) (IntKind.i64.wrap (Int.ofNat 1 + IntKind.i64.wrap (de.tmod (Int.ofNat 4)))) (Int.ofNat 8) (IntKind.i64.wrap (Int.ofNat 1 + (IntKind.i64.wrap ba).tmod (IntKind.i64.wrap (Int.ofNat 1 + IntKind.i64.wrap (de.tmod (Int.ofNat 4)))))) (Int.ofNat 0) (Int.ofNat 1) 1 x.fst 0 x.snd.fst (fun (e : Nat) => 0) x.snd.snd (fun (i e : Nat) => cO (fun (x : Nat) => Int.ofNat 0) 0 i e) (fun (i e : Nat) => cA (fun (x : Nat) => Int.ofNat 0) 0 i e) (fun (i e : Nat) => cB (fun (x : Nat) => Int.ofNat 0) 0 i e) (fun (e : Nat) => uP (fun (x : Nat) => Int.ofNat 0) 0 e) (fun (e : Nat) => uL (fun (x : Nat) => Int.ofNat 0) 0 e) fun (e : Nat) => uD (fun (x : Nat) => Int.ofNat 0) 0 e) x_2.fst.m.g (↑x_7 : Int)).toNat ≤ (entN (Cf.mk (Int.ofNat 1) (Int.ofNat 3) (Int.ofNat 1) (Int.ofNat 8) (IntKind.i64.wrap (Int.ofNat 1 + IntKind.i64.wrap (de.tmod (Int.ofNat 4)))) (Int.ofNat 8) (IntKind.i64.wrap (Int.ofNat 1 + (IntKind.i64.wrap ba).tmod (IntKind.i64.wrap (Int.ofNat 1 + IntKind.i64.wrap (de.tmod (Int.ofNat 4)))))) (Int.ofNat 0) (Int.ofNat 1) 1 x.fst 0 x.snd.fst (fun (e : Nat) => 0) x.snd.snd (fun (i e : Nat) => cO (fun (x : Nat) => Int.ofNat 0) 0 i e) (fun (i e : Nat) => cA (fun (x : Nat) => Int.ofNat 0) 0 i e) (fun (i e : Nat) => cB (fun (x : Nat) => Int.ofNat 0) 0 i e) (fun (e : Nat) => uP (fun (x : Nat) => Int.ofNat 0) 0 e) (fun (e : Nat) => uL (fun (x : Nat) => Int.ofNat 0) 0 e) fun (e : Nat) => uD (fun (x : Nat) => Int.ofNat 0) 0 e) x_2.fst.m.g (↑x_7 : Int)).toNat ∧ (entN (Cf.mk (Int.ofNat 1) (Int.ofNat 3) (Int.ofNat 1) (Int.ofNat 8) (IntKind.i64.wrap (Int.ofNat 1 + IntKind.i64.wrap (de.tmod (Int.ofNat 4)))) (Int.ofNat 8) (IntKind.i64.wrap (Int.ofNat 1 + (IntKind.i64.wrap ba).tmod (IntKind.i64.wrap (Int.ofNat 1 + IntKind.i64.wrap (de.tmod (Int.ofNat 4)))))) (Int.ofNat 0) (Int.ofNat 1) 1 x.fst 0 x.snd.fst (fun (e : Nat) => 0) x.snd.snd (fun (i e : Nat) => cO (fun (x : Nat) => Int.ofNat 0) 0 i e) (fun (i e : Nat) => cA (fun (x : Nat) => Int.ofNat 0) 0 i e) (fun (i e : Nat) => cB (fun (x : Nat) => Int.ofNat 0) 0 i e) (fun (e : Nat) => uP (fun (x : Nat) => Int.ofNat 0) 0 e) (fun (e : Nat) => uL (fun (x : Nat) => Int.ofNat 0) 0 e) fun (e : Nat) => uD (fun (x : Nat) => Int.ofNat 0) 0 e) x_2.fst.m.g (↑x_7 : Int)).toNat ≤ x_9)
    (nN [(1, .pf (∀ (i e : Nat), i = 0 ∧ e < (entN (Cf.mk (Int.ofNat 1) (Int.ofNat 3) (Int.ofNat 1) (Int.ofNat 8) (IntKind.i64.wrap (Int.ofNat 1 + IntKind.i64.wrap (de.tmod (Int.ofNat 4)))) (Int.ofNat 8) (IntKind.i64.wrap (Int.ofNat 1 + (IntKind.i64.wrap ba).tmod (IntKind.i64.wrap (Int.ofNat 1 + IntKind.i64.wrap (de.tmod (Int.ofNat 4)))))) (Int.ofNat 0) (Int.ofNat 1) 1 x.fst 0 x.snd.fst (fun (e : Nat) => 0) x.snd.snd (fun (i e : Nat) => cO (fun (x : Nat) => Int.ofNat 0) 0 i e) (fun (i e : Nat) => cA (fun (x : Nat) => Int.ofNat 0) 0 i e) (fun (i e : Nat) => cB (fun (x : Nat) => Int.ofNat 0) 0 i e) (fun (e : Nat) => uP (fun (x : Nat) => Int.ofNat 0) 0 e) (fun (e : Nat) => uL (fun (x : Nat) => Int.ofNat 0) 0 e) fun (e : Nat) => uD (fun (x : Nat) => Int.ofNat 0) 0 e) x_2.fst.m.g (↑x_7 : Int)).toNat → entE (Cf.mk (Int.ofNat 1) (Int.ofNat 3) (Int.ofNat 1) (Int.ofNat 8) (IntKind.i64.wrap (Int.ofNat 1 + IntKind.i64.wrap (de.tmod (Int.ofNat 4)))) (Int.ofNat 8) (IntKind.i64.wrap (Int.ofNat 1 + (IntKind.i64.wrap ba).tmod (IntKind.i64.wrap (Int.ofNat 1 + IntKind.i64.wrap (de.tmod (Int.ofNat 4)))))) (Int.ofNat 0) (Int.ofNat 1) 1 x.fst 0 x.snd.fst (fun (e : Nat) => 0) x.snd.snd (fun (i e : Nat) => cO (fun (x : Nat) => Int.ofNat 0) 0 i e) (fun (i e : Nat) => cA (fun (x : Nat) => Int.ofNat 0) 0 i e) (fun (i e : Nat) => cB (fun (x : Nat) => Int.ofNat 0) 0 i e) (fun (e : Nat) => uP (fun (x : Nat) => Int.ofNat 0) 0 e) (fun (e : Nat) => uL (fun (x : Nat) => Int.ofNat 0) 0 e) fun (e : Nat) => uD (fun (x : Nat) => Int.ofNat 0) 0 e) x_2.fst.m.g (↑x_7 : Int) e = entE (Cf.mk (Int.ofNat 1) (Int.ofNat 3) (Int.ofNat 1) (Int.ofNat 8) (IntKind.i64.wrap (Int.ofNat 1 + IntKind.i64.wrap (de.tmod (Int.ofNat 4)))) (Int.ofNat 8) (IntKind.i64.wrap (Int.ofNat 1 + (IntKind.i64.wrap ba).tmod (IntKind.i64.wrap (Int.ofNat 1 + IntKind.i64.wrap (de.tmod (Int.ofNat 4)))))) (Int.ofNat 0) (Int.ofNat 1) 1 x.fst 0 x.snd.fst (fun (e : Nat) => 0) x.snd.snd (fun (i e : Nat) => cO (fun (x : Nat) => Int.ofNat 0) 0 i e) (fun (i e : Nat) => cA (fun (x : Nat) => Int.ofNat 0) 0 i e) (fun (i e : Nat) => cB (fun (x : Nat) => Int.ofNat 0) 0 i e) (fun (e : Nat) => uP (fun (x : Nat) => Int.ofNat 0) 0 e) (fun (e : Nat) => uL (fun (x : Nat) => Int.ofNat 0) 0 e) fun (e : Nat) => uD (fun (x : Nat) => Int.ofNat 0) 0 e) x_2.fst.m.g (↑x_7 : Int) e) (by intros; rfl))]
    (V.need (∀ (i : Nat), i < 0 + (↑x_7 : Int).toNat + 1 → onIs (0 + (↑x_7 : Int).toNat) (x_6.ls (0 + (↑x_7 : Int).toNat)) i ≤ x_6.ls i ∧ onIs (0 + (↑x_7 : Int).toNat) (x_6.ls (0 + (↑x_7 : Int).toNat)) i ≤ x_6.cp i)
    (nN [(1, .pf (∀ (i e : Nat), i < 0 + (↑x_7 : Int).toNat + 1 ∧ e < onIs (0 + (↑x_7 : Int).toNat) (x_6.ls (0 + (↑x_7 : Int).toNat)) i → x_6.S i e = x_6.S i e) (by intros; rfl))]
    (V.need ((entN (Cf.mk (Int.ofNat 1) (Int.ofNat 3) (Int.ofNat 1) (Int.ofNat 8) (IntKind.i64.wrap (Int.ofNat 1 + IntKind.i64.wrap (de.tmod (Int.ofNat 4)))) (Int.ofNat 8) (IntKind.i64.wrap (Int.ofNat 1 + (IntKind.i64.wrap ba).tmod (IntKind.i64.wrap (Int.ofNat 1 + IntKind.i64.wrap (de.tmod (Int.ofNat 4)))))) (Int.ofNat 0) (Int.ofNat 1) 1 x.fst 0 x.snd.fst (fun (e : Nat) => 0) x.snd.snd (fun (i e : Nat) => cO (fun (x : Nat) => Int.ofNat 0) 0 i e) (fun (i e : Nat) => cA (fun (x : Nat) => Int.ofNat 0) 0 i e) (fun (i e : Nat) => cB (fun (x : Nat) => Int.ofNat 0) 0 i e) (fun (e : Nat) => uP (fun (x : Nat) => Int.ofNat 0) 0 e) (fun (e : Nat) => uL (fun (x : Nat) => Int.ofNat 0) 0 e) fun (e : Nat) => uD (fun (x : Nat) => Int.ofNat 0) 0 e) x_2.fst.m.g (↑x_7 : Int)).toNat ≤ 100000)
    (V.need (∃ (x_10 : Bool), φIs (entN (Cf.mk (Int.ofNat 1) (Int.ofNat 3) (Int.ofNat 1) (Int.ofNat 8) (IntKind.i64.wrap (Int.ofNat 1 + IntKind.i64.wrap (de.tmod (Int.ofNat 4)))) (Int.ofNat 8) (IntKind.i64.wrap (Int.ofNat 1 + (IntKind.i64.wrap ba).tmod (IntKind.i64.wrap (Int.ofNat 1 + IntKind.i64.wrap (de.tmod (Int.ofNat 4)))))) (Int.ofNat 0) (Int.ofNat 1) 1 x.fst 0 x.snd.fst (fun (e : Nat) => 0) x.snd.snd (fun (i e : Nat) => cO (fun (x : Nat) => Int.ofNat 0) 0 i e) (fun (i e : Nat) => cA (fun (x : Nat) => Int.ofNat 0) 0 i e) (fun (i e : Nat) => cB (fun (x : Nat) => Int.ofNat 0) 0 i e) (fun (e : Nat) => uP (fun (x : Nat) => Int.ofNat 0) 0 e) (fun (e : Nat) => uL (fun (x : Nat) => Int.ofNat 0) 0 e) fun (e : Nat) => uD (fun (x : Nat) => Int.ofNat 0) 0 e) x_2.fst.m.g (↑x_7 : Int)).toNat (x_6.ls (0 + (↑x_7 : Int).toNat)) (fun (e : Nat) => entE (Cf.mk (Int.ofNat 1) (Int.ofNat 3) (Int.ofNat 1) (Int.ofNat 8) (IntKind.i64.wrap (Int.ofNat 1 + IntKind.i64.wrap (de.tmod (Int.ofNat 4)))) (Int.ofNat 8) (IntKind.i64.wrap (Int.ofNat 1 + (IntKind.i64.wrap ba).tmod (IntKind.i64.wrap (Int.ofNat 1 + IntKind.i64.wrap (de.tmod (Int.ofNat 4)))))) (Int.ofNat 0) (Int.ofNat 1) 1 x.fst 0 x.snd.fst (fun (e : Nat) => 0) x.snd.snd (fun (i e : Nat) => cO (fun (x : Nat) => Int.ofNat 0) 0 i e) (fun (i e : Nat) => cA (fun (x : Nat) => Int.ofNat 0) 0 i e) (fun (i e : Nat) => cB (fun (x : Nat) => Int.ofNat 0) 0 i e) (fun (e : Nat) => uP (fun (x : Nat) => Int.ofNat 0) 0 e) (fun (e : Nat) => uL (fun (x : Nat) => Int.ofNat 0) 0 e) fun (e : Nat) => uD (fun (x : Nat) => Int.ofNat 0) 0 e) x_2.fst.m.g (↑x_7 : Int) e) (fun (e : Nat) => x_6.S (0 + (↑x_7 : Int).toNat) e) x_10)
    (V.any Bool (φIs (entN (Cf.mk (Int.ofNat 1) (Int.ofNat 3) (Int.ofNat 1) (Int.ofNat 8) (IntKind.i64.wrap (Int.ofNat 1 + IntKind.i64.wrap (de.tmod (Int.ofNat 4)))) (Int.ofNat 8) (IntKind.i64.wrap (Int.ofNat 1 + (IntKind.i64.wrap ba).tmod (IntKind.i64.wrap (Int.ofNat 1 + IntKind.i64.wrap (de.tmod (Int.ofNat 4)))))) (Int.ofNat 0) (Int.ofNat 1) 1 x.fst 0 x.snd.fst (fun (e : Nat) => 0) x.snd.snd (fun (i e : Nat) => cO (fun (x : Nat) => Int.ofNat 0) 0 i e) (fun (i e : Nat) => cA (fun (x : Nat) => Int.ofNat 0) 0 i e) (fun (i e : Nat) => cB (fun (x : Nat) => Int.ofNat 0) 0 i e) (fun (e : Nat) => uP (fun (x : Nat) => Int.ofNat 0) 0 e) (fun (e : Nat) => uL (fun (x : Nat) => Int.ofNat 0) 0 e) fun (e : Nat) => uD (fun (x : Nat) => Int.ofNat 0) 0 e) x_2.fst.m.g (↑x_7 : Int)).toNat (x_6.ls (0 + (↑x_7 : Int).toNat)) (fun (e : Nat) => entE (Cf.mk (Int.ofNat 1) (Int.ofNat 3) (Int.ofNat 1) (Int.ofNat 8) (IntKind.i64.wrap (Int.ofNat 1 + IntKind.i64.wrap (de.tmod (Int.ofNat 4)))) (Int.ofNat 8) (IntKind.i64.wrap (Int.ofNat 1 + (IntKind.i64.wrap ba).tmod (IntKind.i64.wrap (Int.ofNat 1 + IntKind.i64.wrap (de.tmod (Int.ofNat 4)))))) (Int.ofNat 0) (Int.ofNat 1) 1 x.fst 0 x.snd.fst (fun (e : Nat) => 0) x.snd.snd (fun (i e : Nat) => cO (fun (x : Nat) => Int.ofNat 0) 0 i e) (fun (i e : Nat) => cA (fun (x : Nat) => Int.ofNat 0) 0 i e) (fun (i e : Nat) => cB (fun (x : Nat) => Int.ofNat 0) 0 i e) (fun (e : Nat) => uP (fun (x : Nat) => Int.ofNat 0) 0 e) (fun (e : Nat) => uL (fun (x : Nat) => Int.ofNat 0) 0 e) fun (e : Nat) => uD (fun (x : Nat) => Int.ofNat 0) 0 e) x_2.fst.m.g (↑x_7 : Int) e) fun (e : Nat) => x_6.S (0 + (↑x_7 : Int).toNat) e) fun (x : Bool) => V.br (!x)
    (V.bad 420)
    (V.need ((IntKind.i64.wrap ((↑x_7 : Int) + Int.ofNat 1)).toNat.le 3)
    (V.need (3 - (IntKind.i64.wrap ((↑x_7 : Int) + Int.ofNat 1)).toNat < 3 - x_7)
    (V.need (IntKind.i64.wrap ((↑x_7 : Int) + Int.ofNat 1) = (↑(IntKind.i64.wrap ((↑x_7 : Int) + Int.ofNat 1)).toNat : Int)) V.ok)))))))))))))))
    (V.need (Int.ofNat 0 ≤ (↑x_7 : Int) ∧ (↑x_7 : Int) < (↑3 : Int))
    (V.need (0 < 1 ∧ 0 + (↑x_7 : Int).toNat < 3)
    (V.need (0 < 1 ∧ 0 + (↑x_7 : Int).toNat < 3)
    (nN [qE (0 + (↑x_7 : Int).toNat), qE (x_6.ls (0 + (↑x_7 : Int).toNat)), qE (x_6.cp (0 + (↑x_7 : Int).toNat))]
    (V.need (∀ (i : Nat), i < 0 + (↑x_7 : Int).toNat + 1 → onIs (0 + (↑x_7 : Int).toNat) (x_6.ls (0 + (↑x_7 : Int).toNat)) i ≤ x_6.ls i ∧ onIs (0 + (↑x_7 : Int).toNat) (x_6.ls (0 + (↑x_7 : Int).toNat)) i ≤ x_6.cp i)
    (nN [(1, .pf (∀ (i e : Nat), i < 0 + (↑x_7 : Int).toNat + 1 ∧ e < onIs (0 + (↑x_7 : Int).toNat) (x_6.ls (0 + (↑x_7 : Int).toNat)) i → x_6.S i e = x_6.S i e) (by intros; rfl))]
    (V.need True
    (V.need (∃ (x : Bool), φIs 0 (x_6.ls (0 + (↑x_7 : Int).toNat)) (fun (x : Nat) => Int.ofNat 0) (fun (e : Nat) => x_6.S (0 + (↑x_7 : Int).toNat) e) x)
    (V.any Bool (φIs 0 (x_6.ls (0 + (↑x_7 : Int).toNat)) (fun (x : Nat) => Int.ofNat 0) fun (e : Nat) => x_6.S (0 + (↑x_7 : Int).toNat) e) fun (x : Bool) => V.br (!x)
    (V.bad 420)
    (V.need ((IntKind.i64.wrap ((↑x_7 : Int) + Int.ofNat 1)).toNat.le 3)
    (V.need (3 - (IntKind.i64.wrap ((↑x_7 : Int) + Int.ofNat 1)).toNat < 3 - x_7)
    (V.need (IntKind.i64.wrap ((↑x_7 : Int) + Int.ofNat 1) = (↑(IntKind.i64.wrap ((↑x_7 : Int) + Int.ofNat 1)).toNat : Int)) V.ok)))))))))))))))))))) V.ok)))))))))))))))))))))))))))))))))))))))))))))))) := by kernel_rfl


end Go.Proofs.YtomaagmleafjeaaGreat.Md

/- DrainTakes: the conditions hold; the walk. -/
set_option linter.unusedVariables false
set_option linter.unusedSimpArgs false
set_option maxRecDepth 100000
namespace Go.Proofs.YtomaagmleafjeaaGreat.Md
open Go Go.RowKit Sx Cn Dc Ck Vc
theorem ceqt {c k : Int} (hc : c ≠ k) (h : (c == k) = true) : False := hc (eq_of_beq h)
theorem cntL_lt {lv tk : Nat → Nat} {v : Nat} : ∀ {j idx : Nat}, idx < cntL lv tk j v → ∃ i, i < j ∧ lv (tk i) = v ∧ cntL lv tk i v = idx
  | 0, idx, h => absurd h (Nat.not_lt_zero _)
  | j + 1, idx, h => by
    have h : idx < cntL lv tk j v + (if v = lv (tk j) then 1 else 0) := h
    by_cases c : idx < cntL lv tk j v
    · obtain ⟨i, h1, h2, h3⟩ := cntL_lt c
      exact ⟨i, by omega, h2, h3⟩
    · by_cases c2 : v = lv (tk j)
      · rw [if_pos c2] at h
        exact ⟨j, by omega, c2.symm, by omega⟩
      · rw [if_neg c2] at h
        omega
theorem dF_e {g : Nat → Int} {u : Nat} : (IntKind.u8.wrap ((g u).tdiv (Int.ofNat 3))).tmod (Int.ofNat 8) = dF g u := by
  have h0 : 0 ≤ IntKind.u8.wrap ((g u).tdiv 3) := by
    have : IntKind.u8.wrap ((g u).tdiv 3) = (g u).tdiv 3 % 256 := by unfold IntKind.wrap; rfl
    omega
  have h1 := Int.tmod_nonneg 8 h0
  have h2 := Int.tmod_lt_of_pos (IntKind.u8.wrap ((g u).tdiv 3)) (show (0 : Int) < 8 by decide)
  unfold dF
  exact (w64 (n := (IntKind.u8.wrap ((g u).tdiv 3)).tmod 8) (by omega)).symm
theorem lv_e {g : Nat → Int} {u : Nat} (h : 0 ≤ g u) : ((g u).tmod (Int.ofNat 3)).toNat = lvF g u ∧ 0 ≤ (g u).tmod (Int.ofNat 3) ∧ (g u).tmod (Int.ofNat 3) < 3 := by
  have h1 := Int.tmod_nonneg 3 h
  have h2 := Int.tmod_lt_of_pos (g u) (show (0 : Int) < 3 by decide)
  refine ⟨?_, h1, h2⟩
  unfold lvF lF
  rw [wu64 (by omega)]
  rfl
/-- The deques of the law's configuration. -/
theorem ent23 {c : Cf} {D tb : Int} {n : Nat} {m : Mm} {ls : Nat → Nat} {S : Nat → Nat → Int} {v : Nat} (hc : c.W = 1 ∧ c.C = 1 ∧ c.H = 8 ∧ c.D = D) (hD : 1 ≤ D ∧ D ≤ 64) (hw : Ws (yF D tb) n 3 m ls S) (ht : m.g (Tq (yF D tb) v).toNat = 0) (hv : v < 3) :
    entN c (fun e => m.g e) v = ls v ∧ ((ls v : Int) ≤ D) ∧ ∀ i, i < ls v → entE c (fun e => m.g e) v i = S v i := by
  obtain ⟨h1, h2, h3, h4⟩ := hc
  have eQ : entQ c v = Tq (yF D tb) v := by
    unfold entQ lQ Tq
    rw [h1, h2, h3, h4]
    rfl
  have hl := hw.len v hv
  have hwt := hw.wf.t v hv
  rw [ht] at hl hwt
  have hle : (ls v : Int) ≤ D := by
    have : m.g (Tq (yF D tb) v + 1).toNat ≤ 0 + D := hwt.2.2.1
    omega
  have hb : (15 : Int) ≤ Tq (yF D tb) v := by
    show (15 : Int) ≤ 15 + v * (2 + D)
    have := Int.mul_nonneg (show (0 : Int) ≤ v by omega) (show 0 ≤ 2 + D by omega)
    omega
  have hb2 : Tq (yF D tb) v ≤ 15 + 2 * (2 + D) := by
    show (15 : Int) + v * (2 + D) ≤ 15 + 2 * (2 + D)
    have := Int.mul_le_mul_of_nonneg_right (show (v : Int) ≤ 2 by omega) (show 0 ≤ 2 + D by omega)
    omega
  refine ⟨?_, hle, fun i hi => ?_⟩
  · unfold entN
    dsimp only
    rw [eQ, ht, hl, Int.zero_add, sz_eq (by omega), Int.sub_zero]
  · have hval := hw.val v i hv hi
    have hrng := hw.rng v i hv hi
    unfold entE
    dsimp only
    rw [eQ, ht, h4, Int.zero_add, wu64 (by omega), ringC_eq (by omega) (by omega) (by omega)]
    rw [ht, Int.zero_add] at hval
    have hval : m.g (Tq (yF D tb) v + 2 + (i : Int) % D).toNat = S v i := hval
    rw [hval, w64 (by omega)]
theorem cntL_mono {lv tk : Nat → Nat} {i : Nat} : ∀ {j : Nat}, i < j → cntL lv tk i (lv (tk i)) < cntL lv tk j (lv (tk i))
  | 0, h => absurd h (Nat.not_lt_zero _)
  | j + 1, h => by
    show _ < cntL lv tk j (lv (tk i)) + (if lv (tk i) = lv (tk j) then 1 else 0)
    by_cases c : i = j
    · subst c
      rw [if_pos rfl]
      exact Nat.lt_succ_self _
    · exact Nat.lt_of_lt_of_le (cntL_mono (by omega)) (Nat.le_add_right _ _)
def cE (W C H D : Int) : Cf := ⟨W, 0, C, 0, D, H, 0, 0, 0, 0, 0, 0, 0, fun _ => 0, fun _ => 0, fun _ _ => 0, fun _ _ => 0, fun _ _ => 0, fun _ => 0, fun _ => 0, fun _ => 0⟩
section
variable {W L C T D H B A P : Int} {nP rc nU cu : Nat} {lenP FC : Nat → Nat} {iO iA iB : Nat → Nat → Int} {uP uL uD : Nat → Int} {g : Nat → Int} {l : Int} {e : Nat}
theorem entN_c : entN ⟨W, L, C, T, D, H, B, A, P, nP, rc, nU, cu, lenP, FC, iO, iA, iB, uP, uL, uD⟩ g l = entN (cE W C H D) g l := rfl
theorem entE_c : entE ⟨W, L, C, T, D, H, B, A, P, nP, rc, nU, cu, lenP, FC, iO, iA, iB, uP, uL, uD⟩ g l e = entE (cE W C H D) g l e := rfl
end
theorem is_true {n n2 : Nat} {g g2 : Nat → Int} (h : n = n2 ∧ ∀ j, j < n → g j = g2 j) : φIs n n2 g g2 true := ⟨fun _ => h, fun _ => rfl⟩
theorem onIs_le {l n i : Nat} {f : Nat → Nat} (h : n ≤ f l) : onIs l n i ≤ f i := by
  unfold onIs
  split
  · rename_i e
    rw [e]; exact h
  · exact Nat.zero_le _
set_option maxHeartbeats 16000000 in
theorem vhDt {ba de : Int} {g : Nat → Int} {len cap : Nat} (hba : 0 ≤ ba ∧ ba ≤ 255) (hde : 0 ≤ de ∧ de ≤ 255) (hg : ∀ v, v < len → 0 ≤ g v ∧ g v ≤ 255) : VHolds (verDt ba de g len cap) := by
  constructor
  rw [verDt_eq]
  have hD : 1 ≤ dDt de ∧ dDt de ≤ 4 := by
    have h1 := Int.tmod_nonneg 4 hde.1
    have h2 := Int.tmod_lt_of_pos de (show (0 : Int) < 4 by decide)
    have e1 : IntKind.i64.wrap (de.tmod 4) = de.tmod 4 := w64 (by omega)
    have : dDt de = 1 + de.tmod 4 := by
      show IntKind.i64.wrap (1 + IntKind.i64.wrap (de.tmod 4)) = _
      rw [e1]; exact w64 (by omega)
    omega
  have hB : 1 ≤ bDt ba de ∧ bDt ba de ≤ dDt de := by
    have h1 := Int.tmod_nonneg (dDt de) hba.1
    have h2 := Int.tmod_lt_of_pos ba (show (0 : Int) < dDt de by omega)
    have e1 : IntKind.i64.wrap ba = ba := w64 (by omega)
    have : bDt ba de = 1 + ba.tmod (dDt de) := by
      show IntKind.i64.wrap (1 + (IntKind.i64.wrap ba).tmod (dDt de)) = _
      rw [e1]; exact w64 (by omega)
    omega
  have eN : min (len : Int) (Int.ofNat 8) = ((min len 8 : Nat) : Int) := by
    show min (len : Int) (8 : Int) = _
    omega
  simp only [eN]
  unfold bDt at hB ⊢
  unfold dDt at hD hB ⊢
  generalize IntKind.i64.wrap (Int.ofNat 1 + IntKind.i64.wrap (de.tmod (Int.ofNat 4))) = D at *
  generalize IntKind.i64.wrap (Int.ofNat 1 + (IntKind.i64.wrap ba).tmod D) = B at *
  have hD0 : D ≠ Int.ofNat 0 := by show D ≠ (0 : Int); omega
  (repeat' first | with_reducible exact V.okI | with_reducible refine V.anyCfg ?_ | with_reducible refine V.anyMm ?_ | with_reducible refine V.anyInt ?_ | with_reducible refine V.anyNat ?_ | with_reducible refine V.anyCl' ?_ | with_reducible refine nN_h rfl ?_ | with_reducible refine V.needI ?_ ?_ | with_reducible intro _)
  all_goals first
    | (first | rfl | exact True.intro | exact ⟨u8_0, by decide⟩ | exact ⟨(1, 0, fun _ => 0), Nat.le_refl _⟩ | exact ⟨Nat.le_refl _, by assumption⟩ | exact Nat.zero_le _ | exact ⟨Nat.zero_le _, Nat.zero_le _⟩ | exact ⟨(_, _), is_cl _, Nat.le_refl _⟩ | exact err9 (by unfold okN; simp only [Int.ofNat_eq_natCast]; omega) rfl rfl rfl | decide)
    | exact err23 (by unfold okN c23; dsimp only; simp only [Int.ofNat_eq_natCast]; omega) rfl rfl rfl
    | exact ex_fl
    | exact ⟨u8_0, by decide⟩
    | omega
    | exact hD0
    | skip
  · refine err23 ?_ rfl rfl rfl
    unfold okN c23
    dsimp only
    omega
  refine V.anyI fun x hx => ?_
  obtain ⟨d, rc, n, tb, m⟩ := x
  obtain ⟨hcl, hrc, ⟨hn0, ht⟩, hm⟩ := hx
  dsimp only at hcl hrc hn0 ht hm ⊢
  have hn : (n : Int) = 61 + 3 * D := by rw [hn0]; exact ncN23 (by exact hD.1)
  have ht : tb = 15 + 3 * (2 + D) := by rw [ht]; exact lT23 _
  have hm : m = filM D tb n g (min len 8) := hm
  have hN8 : min len 8 ≤ 8 := Nat.min_le_right _ _
  have hNl : min len 8 ≤ len := Nat.min_le_left _ _
  have hg0 : ∀ u, u < min len 8 → 0 ≤ g u := fun u hu => (hg u (by omega)).1
  have hfi := fil_FI (D := D) (tb := tb) (n := n) (g := g) (by omega) (by omega) hN8 hg0
  rw [← hm] at hfi
  clear hcl hm
  generalize min len 8 = N at *
  have hp : preDt D B N g (yF D tb) B n 0 400 m e0 0 := ⟨rfl, rfl, rfl, rfl, ⟨hD.1, by omega⟩, hn, ht, hN8, hg0, hB, hfi, rfl⟩
  ((repeat' first | with_reducible refine nN_h rfl ?_ | with_reducible refine V.brT ?_ | with_reducible refine V.brF ?_ | with_reducible refine V.needI ?_ ?_) <;> (try first | with_reducible exact V.okI | exact rfl | exact ⟨Nat.le_refl _, rfl⟩ | exact Nat.le_refl _ | assumption | omega | trivial | decide | (intros; rfl) | (intros; trivial)))
  obtain ⟨R, r1, r2, r3, r4⟩ := drain_all (B := B) (M := 400) (l := e0) ⟨hD.1, by omega⟩ hn ht hN8 hg0 hB hfi rfl (Nat.le_refl _)
  refine V.brI (fun h0 => ?_) fun h0 => ?_
  · have h0 : N = 0 := of_decide_eq_true h0
    obtain ⟨a1, a2, a3, a4⟩ := r3 h0
    ((repeat' first | with_reducible refine nN_h rfl ?_ | with_reducible refine V.brT ?_ | with_reducible refine V.brF ?_ | with_reducible refine V.needI ?_ ?_) <;> (try first | with_reducible exact V.okI | exact rfl | exact ⟨Nat.le_refl _, rfl⟩ | exact Nat.le_refl _ | assumption | omega | trivial | decide | (intros; rfl) | (intros; trivial)))
    · exact ⟨(R, R.l.n), a1, a2, r2, a3, Nat.le_refl _⟩
    clear r1 r2 r3 r4 a1 a2 a3 a4
    refine V.anyI fun r hr => ?_
    obtain ⟨r, nr⟩ := r
    obtain ⟨c1, c2, c3, c4, c5⟩ := hr
    dsimp only at c1 c2 c3 c4 c5 ⊢
    ((repeat' first | with_reducible refine nN_h rfl ?_ | with_reducible refine V.brT ?_ | with_reducible refine V.brF ?_ | with_reducible refine V.needI ?_ ?_) <;> (try first | with_reducible exact V.okI | exact rfl | exact ⟨Nat.le_refl _, rfl⟩ | exact Nat.le_refl _ | assumption | omega | trivial | decide | (intros; rfl) | (intros; trivial)))
    · exact ⟨⟨Nat.zero_le _, trivial, Nat.le_refl _⟩, fun j hj => absurd hj (Nat.not_lt_zero _)⟩
    refine V.anyI fun x hx => ?_
    obtain ⟨⟨o1, o2, o3⟩, o4⟩ := hx
    have ei : IntKind.i64.wrap ((x.i : Int) + Int.ofNat 1) = ((x.i + 1 : Nat) : Int) := wnat (by omega)
    simp only [ei, Int.toNat_natCast, Nat.zero_add, true_and, eq_self_iff_true]
    ((repeat' first | with_reducible refine nN_h rfl ?_ | with_reducible refine V.brT ?_ | with_reducible refine V.brF ?_ | with_reducible refine V.needI ?_ ?_) <;> (try first | with_reducible exact V.okI | exact rfl | exact ⟨Nat.le_refl _, rfl⟩ | exact Nat.le_refl _ | assumption | omega | trivial | decide | (intros; rfl) | (intros; trivial)))
    refine V.brI (fun hi => ?_) fun hi => ?_
    · have := of_decide_eq_true hi
      omega
    have v2 : r.m.val n (Int.ofNat 2) = 0 := by rw [Mm.val_eq (by decide) (by show (2 : Int) < n; omega)]; exact c4
    have v1 : r.m.val n (Int.ofNat 1) = 0 := by rw [Mm.val_eq (by decide) (by show (1 : Int) < n; omega)]; exact c3
    ((repeat' first | with_reducible refine nN_h rfl ?_ | with_reducible refine V.brT ?_ | with_reducible refine V.brF ?_ | with_reducible refine V.needI ?_ ?_) <;> (try first | with_reducible exact V.okI | exact rfl | exact ⟨Nat.le_refl _, rfl⟩ | exact Nat.le_refl _ | assumption | omega | trivial | decide | (intros; rfl) | (intros; trivial)))
    refine V.anyI fun z hz => ?_
    rw [v2] at hz
    subst hz
    have xn : x.n = 0 := by omega
    refine V.brI (fun h => ?_) fun _ => ?_
    · rw [xn, h0] at h
      exact absurd h (by decide)
    ((repeat' first | with_reducible refine nN_h rfl ?_ | with_reducible refine V.brT ?_ | with_reducible refine V.brF ?_ | with_reducible refine V.needI ?_ ?_) <;> (try first | with_reducible exact V.okI | exact rfl | exact ⟨Nat.le_refl _, rfl⟩ | exact Nat.le_refl _ | assumption | omega | trivial | decide | (intros; rfl) | (intros; trivial)))
    refine V.anyI fun z hz => ?_
    rw [v1] at hz
    subst hz
    refine V.brI (fun h => absurd h (by decide)) fun _ => ?_
    refine V.brI (fun h => ?_) fun h => ?_
    · rw [xn]
      ((repeat' first | with_reducible refine nN_h rfl ?_ | with_reducible refine V.brT ?_ | with_reducible refine V.brF ?_ | with_reducible refine V.needI ?_ ?_) <;> (try first | with_reducible exact V.okI | exact rfl | exact ⟨Nat.le_refl _, rfl⟩ | exact Nat.le_refl _ | assumption | omega | trivial | decide | (intros; rfl) | (intros; trivial)))
    · rw [h0] at h
      exact absurd h (by decide)
  · have h0 : N ≠ 0 := of_decide_eq_false h0
    obtain ⟨K', tk', S', a1, a2, a3, a4⟩ := r4 h0
    ((repeat' first | with_reducible refine nN_h rfl ?_ | with_reducible refine V.brT ?_ | with_reducible refine V.brF ?_ | with_reducible refine V.needI ?_ ?_) <;> (try first | with_reducible exact V.okI | exact rfl | exact ⟨Nat.le_refl _, rfl⟩ | exact Nat.le_refl _ | assumption | omega | trivial | decide | (intros; rfl) | (intros; trivial)))
    · exact ⟨(R, R.l.n), a2, r2, ⟨K', tk', S', a1, a3, a4⟩, Nat.le_refl _⟩
    clear a1 a2 a3 a4 r1 r2 r3 r4 K' tk' S' R
    refine V.anyI fun r hr => ?_
    obtain ⟨r, nr⟩ := r
    obtain ⟨c1, c2, ⟨K, tk, S, k1, k2, h⟩, c5⟩ := hr
    dsimp only at c1 c2 k2 h c5 ⊢
    have hev := h.ev
    have hKN : K ≤ N := h.jN
    ((repeat' first | with_reducible refine nN_h rfl ?_ | with_reducible refine V.brT ?_ | with_reducible refine V.brF ?_ | with_reducible refine V.needI ?_ ?_) <;> (try first | with_reducible exact V.okI | exact rfl | exact ⟨Nat.le_refl _, rfl⟩ | exact Nat.le_refl _ | assumption | omega | trivial | decide | (intros; rfl) | (intros; trivial)))
    · exact ⟨⟨Nat.zero_le _, trivial, Nat.le_refl _⟩, fun j hj => absurd hj (Nat.not_lt_zero _)⟩
    refine V.anyI fun x hx => ?_
    obtain ⟨⟨o1, o2, o3⟩, o4⟩ := hx
    have ei : IntKind.i64.wrap ((x.i : Int) + Int.ofNat 1) = ((x.i + 1 : Nat) : Int) := wnat (by omega)
    simp only [ei, Int.toNat_natCast, Nat.zero_add, true_and, eq_self_iff_true]
    ((repeat' first | with_reducible refine nN_h rfl ?_ | with_reducible refine V.brT ?_ | with_reducible refine V.brF ?_ | with_reducible refine V.needI ?_ ?_) <;> (try first | with_reducible exact V.okI | exact rfl | exact ⟨Nat.le_refl _, rfl⟩ | exact Nat.le_refl _ | assumption | omega | trivial | decide | (intros; rfl) | (intros; trivial)))
    refine V.brI (fun hi => ?_) fun hi => ?_
    · have hi : x.i < r.l.n := by have := of_decide_eq_true hi; omega
      obtain ⟨e1, e2⟩ := hev.2 x.i (by omega)
      ((repeat' first | with_reducible refine nN_h rfl ?_ | with_reducible refine V.brT ?_ | with_reducible refine V.brF ?_ | with_reducible refine V.needI ?_ ?_) <;> (try first | with_reducible exact V.okI | exact rfl | exact ⟨Nat.le_refl _, rfl⟩ | exact Nat.le_refl _ | assumption | omega | trivial | decide | (intros; rfl) | (intros; trivial)))
      all_goals try exact ⟨Int.natCast_nonneg _, by omega⟩
      all_goals try exact ⟨Nat.zero_lt_one, hi⟩
      refine V.brI (fun _ => ?_) fun h => by rw [e1] at h; exact absurd h (by decide)
      ((repeat' first | with_reducible refine nN_h rfl ?_ | with_reducible refine V.brT ?_ | with_reducible refine V.brF ?_ | with_reducible refine V.needI ?_ ?_) <;> (try first | with_reducible exact V.okI | exact rfl | exact ⟨Nat.le_refl _, rfl⟩ | exact Nat.le_refl _ | assumption | omega | trivial | decide | (intros; rfl) | (intros; trivial)))
      all_goals try exact ⟨Int.natCast_nonneg _, by omega⟩
      all_goals try exact ⟨Nat.zero_lt_one, hi⟩
      · exact ⟨Nat.le_refl _, trivial⟩
      refine V.anyI fun c hc => ?_
      ((repeat' first | with_reducible refine nN_h rfl ?_ | with_reducible refine V.brT ?_ | with_reducible refine V.brF ?_ | with_reducible refine V.needI ?_ ?_) <;> (try first | with_reducible exact V.okI | exact rfl | exact ⟨Nat.le_refl _, rfl⟩ | exact Nat.le_refl _ | assumption | omega | trivial | decide | (intros; rfl) | (intros; trivial)))
      refine ⟨⟨?_, ?_, hc⟩, fun j hj => ?_⟩
      · exact hi
      · exact congrArg Nat.succ o2
      by_cases cj : j = x.n
      · subst cj
        rw [if_pos rfl, o2]
      · rw [if_neg cj]
        exact o4 j (by omega)
    have hi : x.i = r.l.n := by have := of_decide_eq_false hi; omega
    have xn : x.n = K := by omega
    have ha : ∀ j, j < K → x.a j = tk j := fun j hj => by rw [o4 j (by omega)]; exact (hev.2 j hj).2
    have v2 : r.m.val n (Int.ofNat 2) = ((N - K : Nat) : Int) := by rw [Mm.val_eq (by decide) (by show (2 : Int) < n; omega)]; exact h.sz
    have v1 : r.m.val n (Int.ofNat 1) = 0 := by rw [Mm.val_eq (by decide) (by show (1 : Int) < n; omega)]; exact c2
    ((repeat' first | with_reducible refine nN_h rfl ?_ | with_reducible refine V.brT ?_ | with_reducible refine V.brF ?_ | with_reducible refine V.needI ?_ ?_) <;> (try first | with_reducible exact V.okI | exact rfl | exact ⟨Nat.le_refl _, rfl⟩ | exact Nat.le_refl _ | assumption | omega | trivial | decide | (intros; rfl) | (intros; trivial)))
    refine V.anyI fun z hz => ?_
    rw [v2] at hz
    subst hz
    refine V.brI (fun h => ?_) fun _ => ?_
    · rw [xn, show (N : Int) - (K : Int) = ((N - K : Nat) : Int) by omega] at h
      simp at h
    ((repeat' first | with_reducible refine nN_h rfl ?_ | with_reducible refine V.brT ?_ | with_reducible refine V.brF ?_ | with_reducible refine V.needI ?_ ?_) <;> (try first | with_reducible exact V.okI | exact rfl | exact ⟨Nat.le_refl _, rfl⟩ | exact Nat.le_refl _ | assumption | omega | trivial | decide | (intros; rfl) | (intros; trivial)))
    refine V.anyI fun z hz => ?_
    rw [v1] at hz
    subst hz
    refine V.brI (fun h => absurd h (by decide)) fun _ => ?_
    refine V.brI (fun h => (ceqt (show (N : Int) ≠ Int.ofNat 0 by show (N : Int) ≠ (0 : Int); omega) h).elim) fun _ => ?_
    refine V.brI (fun h => (cne (by rw [k2, xn]) h).elim) fun _ => ?_
    refine V.brI (fun h => (cne (by rw [k2, k1]) h).elim) fun _ => ?_
    clear hev hi o1 o2 o3 o4 ei v1 v2
    obtain ⟨xi, xN, xc, xa⟩ := x
    dsimp only at xn ha ⊢
    subst xn
    ((repeat' first | with_reducible refine nN_h rfl ?_ | with_reducible refine V.brT ?_ | with_reducible refine V.brF ?_ | with_reducible refine V.needI ?_ ?_) <;> (try first | with_reducible exact V.okI | exact rfl | exact ⟨Nat.le_refl _, rfl⟩ | exact Nat.le_refl _ | assumption | omega | trivial | decide | (intros; rfl) | (intros; trivial)))
    · exact ⟨Nat.zero_le _, fun _ _ => rfl, fun _ => Nat.le_refl _, fun i hi => absurd hi (Nat.not_lt_zero _)⟩
    have hTK : ∀ i, i < xN → (fun e => (xa e).toNat) i = tk i := fun i hi => by show (xa i).toNat = tk i; rw [ha i hi]; rfl
    refine V.anyI fun y hy => ?_
    obtain ⟨p1, p2, p3, p4⟩ := hy
    have ey : IntKind.i64.wrap ((y.i : Int) + Int.ofNat 1) = ((y.i + 1 : Nat) : Int) := wnat (by omega)
    simp only [ey, Int.toNat_natCast]
    refine V.brI (fun hi => ?_) fun hi => ?_
    · have hi : y.i < xN := by have := of_decide_eq_true hi; omega
      obtain ⟨t1, t2, t3⟩ := h.ord y.i hi
      have hgt := hg0 _ t1
      obtain ⟨l1, l2, l3⟩ := lv_e hgt
      have hL3 : lvF g (tk y.i) < 3 := by rw [← l1]; omega
      simp only [ha y.i hi, Int.toNat_natCast, l1]
      ((repeat' first | with_reducible refine nN_h rfl ?_ | with_reducible refine V.brT ?_ | with_reducible refine V.brF ?_ | with_reducible refine V.needI ?_ ?_) <;> (try first | with_reducible exact V.okI | exact rfl | exact ⟨Nat.le_refl _, rfl⟩ | exact Nat.le_refl _ | assumption | omega | trivial | decide | (intros; rfl) | (intros; trivial)))
      all_goals try exact ⟨Int.natCast_nonneg _, by omega⟩
      all_goals try exact ⟨Nat.zero_lt_one, hi⟩
      refine V.brI (fun h => (neg_bad h).elim) fun _ => ?_
      refine V.brI (fun h => (dge (by omega) h).elim) fun _ => ?_
      ((repeat' first | with_reducible refine nN_h rfl ?_ | with_reducible refine V.brT ?_ | with_reducible refine V.brF ?_ | with_reducible refine V.needI ?_ ?_) <;> (try first | with_reducible exact V.okI | exact rfl | exact ⟨Nat.le_refl _, rfl⟩ | exact Nat.le_refl _ | assumption | omega | trivial | decide | (intros; rfl) | (intros; trivial)))
      · show (0 : Int) ≤ (N : Int)
        omega
      refine V.anyI fun u hu => ?_
      have eu : IntKind.i64.wrap ((u : Int) + Int.ofNat 1) = ((u + 1 : Nat) : Int) := wnat (by omega)
      simp only [eu, Int.toNat_natCast]
      refine V.brI (fun hlt => ?_) fun hge => ?_
      · have hu : u < N := by have := of_decide_eq_true hlt; omega
        ((repeat' first | with_reducible refine nN_h rfl ?_ | with_reducible refine V.brT ?_ | with_reducible refine V.brF ?_ | with_reducible refine V.needI ?_ ?_) <;> (try first | with_reducible exact V.okI | exact rfl | exact ⟨Nat.le_refl _, rfl⟩ | exact Nat.le_refl _ | assumption | omega | trivial | decide | (intros; rfl) | (intros; trivial)))
        · exact ⟨by show (0 : Int) ≤ (y.i : Int) + (1 : Int); omega, rfl⟩
        refine V.anyI fun x hx => ?_
        obtain ⟨k, b⟩ := x
        obtain ⟨q1, q2⟩ := hx
        dsimp only at q1 q2 ⊢
        have q1 : k ≤ y.i + 1 := by have : (k : Int) ≤ (y.i : Int) + (1 : Int) := q1; omega
        have ek : IntKind.i64.wrap ((k : Int) + Int.ofNat 1) = ((k + 1 : Nat) : Int) := wnat (by omega)
        simp only [ek, Int.toNat_natCast]
        refine V.brI (fun hk => ?_) fun hk => ?_
        · have hk : k ≤ y.i := by have := of_decide_eq_true hk; omega
          have hxk := ha k (by omega)
          have mz : (((y.i : Int) + Int.ofNat 1) - ((k + 1 : Nat) : Int)).toNat < (((y.i : Int) + Int.ofNat 1) - (k : Int)).toNat := by
            show (((y.i : Int) + (1 : Int)) - ((k + 1 : Nat) : Int)).toNat < (((y.i : Int) + (1 : Int)) - (k : Int)).toNat
            omega
          have kz : ((k + 1 : Nat) : Int) ≤ (y.i : Int) + Int.ofNat 1 := by
            show ((k + 1 : Nat) : Int) ≤ (y.i : Int) + (1 : Int)
            omega
          have hus : ∀ v, usd (fun e => (xa e).toNat) (k + 1) v = (usd (fun e => (xa e).toNat) k v || decide (v = tk k)) := fun v => by
            show (usd (fun e => (xa e).toNat) k v || decide (v = (xa k).toNat)) = _
            rw [hxk]
            rfl
          refine V.brI (fun hb => ?_) fun hb => ?_
          · ((repeat' first | with_reducible refine nN_h rfl ?_ | with_reducible refine V.brT ?_ | with_reducible refine V.brF ?_ | with_reducible refine V.needI ?_ ?_) <;> (try first | with_reducible exact V.okI | exact rfl | exact ⟨Nat.le_refl _, rfl⟩ | exact Nat.le_refl _ | assumption | omega | trivial | decide | (intros; rfl) | (intros; trivial)))
            all_goals try exact ⟨Int.natCast_nonneg _, by omega⟩
            all_goals try exact ⟨Nat.zero_lt_one, by omega⟩
            refine ⟨kz, ?_⟩
            rw [hus, hxk]
            have q3 : usd (fun e => (xa e).toNat) k u = false := by
              rw [hb] at q2
              cases e : usd (fun e => (xa e).toNat) k u
              · rfl
              · rw [e] at q2; cases q2
            rw [q3]
            show (((tk k : Nat) : Int) != (u : Int)) = !decide (u = tk k)
            by_cases c : u = tk k
            · subst c; simp
            · have c2 : ((tk k : Nat) : Int) ≠ (u : Int) := by omega
              simp [c, c2]
          · ((repeat' first | with_reducible refine nN_h rfl ?_ | with_reducible refine V.brT ?_ | with_reducible refine V.brF ?_ | with_reducible refine V.needI ?_ ?_) <;> (try first | with_reducible exact V.okI | exact rfl | exact ⟨Nat.le_refl _, rfl⟩ | exact Nat.le_refl _ | assumption | omega | trivial | decide | (intros; rfl) | (intros; trivial)))
            refine ⟨kz, ?_⟩
            rw [hus]
            have q3 : usd (fun e => (xa e).toNat) k u = true := by
              rw [hb] at q2
              cases e : usd (fun e => (xa e).toNat) k u
              · rw [e] at q2; cases q2
              · rfl
            rw [q3]
            rfl
        · have hk : k = y.i + 1 := by have := of_decide_eq_false hk; omega
          refine V.brI (fun hb => ?_) fun hb => ?_
          · have hu1 : usd tk (y.i + 1) u = false := by
              rw [← usd_congr (fun i hi => hTK i (by omega))]
              rw [hb, hk] at q2
              cases e : usd (fun e => (xa e).toNat) (y.i + 1) u
              · rfl
              · rw [e] at q2; cases q2
            have hu1 : (usd tk y.i u || decide (u = tk y.i)) = false := hu1
            rw [Bool.or_eq_false_iff] at hu1
            obtain ⟨w1, w2⟩ := kF_le (g := g) (u := tk y.i) (v := u) (by omega) (by omega) (t3 u hu hu1.1)
            have hu2 := of_decide_eq_false hu1.2
            simp only [dF_e]
            ((repeat' first | with_reducible refine nN_h rfl ?_ | with_reducible refine V.brT ?_ | with_reducible refine V.brF ?_ | with_reducible refine V.needI ?_ ?_) <;> (try first | with_reducible exact V.okI | exact rfl | exact ⟨Nat.le_refl _, rfl⟩ | exact Nat.le_refl _ | assumption | omega | trivial | decide | (intros; rfl) | (intros; trivial)))
            all_goals try exact ⟨Int.natCast_nonneg _, by omega⟩
            all_goals try exact ⟨Nat.zero_lt_one, by omega⟩
            refine V.brI (fun h => (dlt w1 h).elim) fun _ => ?_
            ((repeat' first | with_reducible refine nN_h rfl ?_ | with_reducible refine V.brT ?_ | with_reducible refine V.brF ?_ | with_reducible refine V.needI ?_ ?_) <;> (try first | with_reducible exact V.okI | exact rfl | exact ⟨Nat.le_refl _, rfl⟩ | exact Nat.le_refl _ | assumption | omega | trivial | decide | (intros; rfl) | (intros; trivial)))
            all_goals try exact ⟨Int.natCast_nonneg _, by omega⟩
            all_goals try exact ⟨Nat.zero_lt_one, by omega⟩
            refine V.brI (fun he => ?_) fun _ => ?_
            · have he := w2 (eq_of_beq he)
              refine V.brI (fun h => (dlt (by omega) h).elim) fun _ => ?_
              ((repeat' first | with_reducible refine nN_h rfl ?_ | with_reducible refine V.brT ?_ | with_reducible refine V.brF ?_ | with_reducible refine V.needI ?_ ?_) <;> (try first | with_reducible exact V.okI | exact rfl | exact ⟨Nat.le_refl _, rfl⟩ | exact Nat.le_refl _ | assumption | omega | trivial | decide | (intros; rfl) | (intros; trivial)))
              · show ((u + 1 : Nat) : Int) ≤ N
                omega
            · ((repeat' first | with_reducible refine nN_h rfl ?_ | with_reducible refine V.brT ?_ | with_reducible refine V.brF ?_ | with_reducible refine V.needI ?_ ?_) <;> (try first | with_reducible exact V.okI | exact rfl | exact ⟨Nat.le_refl _, rfl⟩ | exact Nat.le_refl _ | assumption | omega | trivial | decide | (intros; rfl) | (intros; trivial)))
              · show ((u + 1 : Nat) : Int) ≤ N
                omega
          · ((repeat' first | with_reducible refine nN_h rfl ?_ | with_reducible refine V.brT ?_ | with_reducible refine V.brF ?_ | with_reducible refine V.needI ?_ ?_) <;> (try first | with_reducible exact V.okI | exact rfl | exact ⟨Nat.le_refl _, rfl⟩ | exact Nat.le_refl _ | assumption | omega | trivial | decide | (intros; rfl) | (intros; trivial)))
            · show ((u + 1 : Nat) : Int) ≤ N
              omega
      · ((repeat' first | with_reducible refine nN_h rfl ?_ | with_reducible refine V.brT ?_ | with_reducible refine V.brF ?_ | with_reducible refine V.needI ?_ ?_) <;> (try first | with_reducible exact V.okI | exact rfl | exact ⟨Nat.le_refl _, rfl⟩ | exact Nat.le_refl _ | assumption | omega | trivial | decide | (intros; rfl) | (intros; trivial)))
        all_goals try exact ⟨Int.natCast_nonneg _, by omega⟩
        all_goals try exact ⟨Nat.zero_lt_one, by omega⟩
        all_goals try exact ⟨l2, l3⟩
        all_goals try exact ⟨Nat.le_refl _, trivial⟩
        · have := p2 _ hL3
          have := @cntL_le (lvF g) (fun e => (xa e).toNat) y.i (lvF g (tk y.i))
          exact ⟨by omega, by omega⟩
        refine V.anyI fun c hc => ?_
        have hcn : ∀ v, cntL (lvF g) (fun e => (xa e).toNat) (y.i + 1) v = cntL (lvF g) (fun e => (xa e).toNat) y.i v + (if v = lvF g (tk y.i) then 1 else 0) := fun v => by
          show cntL (lvF g) (fun e => (xa e).toNat) y.i v + (if v = lvF g (xa y.i).toNat then 1 else 0) = _
          rw [ha y.i hi]
          rfl
        ((repeat' first | with_reducible refine nN_h rfl ?_ | with_reducible refine V.brT ?_ | with_reducible refine V.brF ?_ | with_reducible refine V.needI ?_ ?_) <;> (try first | with_reducible exact V.okI | exact rfl | exact ⟨Nat.le_refl _, rfl⟩ | exact Nat.le_refl _ | assumption | omega | trivial | decide | (intros; rfl) | (intros; trivial)))
        all_goals try exact ⟨Int.natCast_nonneg _, by omega⟩
        all_goals try exact ⟨Nat.zero_lt_one, by omega⟩
        all_goals try exact ⟨l2, l3⟩
        all_goals try exact fun i e h1 h2 h3 => h2 ⟨h1.1, h3⟩
        all_goals try exact fun _ => .inl trivial
        all_goals try exact fun _ _ _ => trivial
        · refine ⟨by omega, fun v hv => ?_, fun v => ?_, fun i hi' => ?_⟩
          · rw [hcn]
            by_cases q : v = lvF g (tk y.i)
            · rw [if_pos q, if_pos q, q, p2 _ hL3]
            · rw [if_neg q, if_neg q, p2 _ hv]
              rfl
          · by_cases q : v = lvF g (tk y.i)
            · rw [if_pos q, if_pos q]
              exact hc
            · rw [if_neg q, if_neg q, if_neg q]
              exact p3 v
          · by_cases q : i = y.i
            · subst q
              simp only [ha y.i hi, Int.toNat_natCast]
              rw [if_pos True.intro, if_pos (p2 _ hL3).symm]
            · have hi2 : i < y.i := by omega
              by_cases q2 : lvF g (xa i).toNat = lvF g (tk y.i)
              · have hm := @cntL_mono (lvF g) (fun e => (xa e).toNat) i y.i hi2
                have hm : cntL (lvF g) (fun e => (xa e).toNat) i (lvF g (xa i).toNat) < cntL (lvF g) (fun e => (xa e).toNat) y.i (lvF g (xa i).toNat) := hm
                rw [if_pos q2, if_neg (fun h => by rw [h, p2 _ hL3, q2] at hm; exact Nat.lt_irrefl _ hm), ← q2]
                exact p4 i hi2
              · rw [if_neg q2]
                exact p4 i hi2
        · intro e he
          by_cases q : e = lvF g (tk y.i)
          · rw [if_pos q, if_pos q]
          · rw [if_neg q, if_neg q, if_neg q]
        · intro i
          by_cases q : i = lvF g (tk y.i)
          · simp only [if_pos q]
            exact ⟨hc, Nat.le_refl _⟩
          · simp only [if_neg q]
            exact ⟨p3 i, Nat.le_refl _⟩
    · have hi : y.i = xN := by have := of_decide_eq_false hi; omega
      ((repeat' first | with_reducible refine nN_h rfl ?_ | with_reducible refine V.brT ?_ | with_reducible refine V.brF ?_ | with_reducible refine V.needI ?_ ?_) <;> (try first | with_reducible exact V.okI | exact rfl | exact ⟨Nat.le_refl _, rfl⟩ | exact Nat.le_refl _ | assumption | omega | trivial | decide | (intros; rfl) | (intros; trivial)))
      · exact Nat.zero_le _
      refine V.anyI fun l hl => ?_
      have el : IntKind.i64.wrap ((l : Int) + Int.ofNat 1) = ((l + 1 : Nat) : Int) := wnat (by omega)
      simp only [el, Int.toNat_natCast]
      refine V.brI (fun h3 => ?_) fun _ => V.okI
      have h3 : l < 3 := by have : (l : Int) < (3 : Int) := of_decide_eq_true h3; omega
      have h64 : 1 ≤ D ∧ D ≤ 64 := ⟨hD.1, by omega⟩
      obtain ⟨n1, n2, n3⟩ := ent23 (c := cE (Int.ofNat 1) (Int.ofNat 1) (Int.ofNat 8) D) ⟨rfl, rfl, rfl, rfl⟩ h64 h.ws (h.tp l h3) h3
      have n1 : entN (cE (Int.ofNat 1) (Int.ofNat 1) (Int.ofNat 8) D) r.m.g l = ((cntL (lvF g) tk xN l : Nat) : Int) := n1
      have e2 : y.ls l = cntL (lvF g) tk xN l := by
        rw [p2 l h3, hi]
        exact cntL_congr hTK
      have c8 := @cntL_le (lvF g) tk xN l
      simp only [entN_c, entE_c, n1, Int.toNat_natCast]
      ((repeat' first | with_reducible refine nN_h rfl ?_ | with_reducible refine V.brT ?_ | with_reducible refine V.brF ?_ | with_reducible refine V.needI ?_ ?_) <;> (try first | with_reducible exact V.okI | exact rfl | exact ⟨Nat.le_refl _, rfl⟩ | exact Nat.le_refl _ | assumption | omega | trivial | decide | (intros; rfl) | (intros; trivial)))
      all_goals try exact ⟨_, Nat.le_refl _⟩
      refine V.anyI fun nc hnc => ?_
      ((repeat' first | with_reducible refine nN_h rfl ?_ | with_reducible refine V.brT ?_ | with_reducible refine V.brF ?_ | with_reducible refine V.needI ?_ ?_) <;> (try first | with_reducible exact V.okI | exact rfl | exact ⟨Nat.le_refl _, rfl⟩ | exact Nat.le_refl _ | assumption | omega | trivial | decide | (intros; rfl) | (intros; trivial)))
      all_goals try exact fun _ _ => ⟨Nat.zero_le _, Nat.zero_le _⟩
      · refine ⟨?_, hn0, ⟨Int.natCast_nonneg _, ?_⟩, h.ws.wf.ok⟩
        · refine err9 ?_ rfl rfl rfl
          unfold okN
          dsimp only
          simp only [Int.ofNat_eq_natCast]
          omega
        · show (l : Int) < (3 : Int)
          omega
      refine V.brI (fun hb => ?_) fun hb => ?_
      · ((repeat' first | with_reducible refine nN_h rfl ?_ | with_reducible refine V.brT ?_ | with_reducible refine V.brF ?_ | with_reducible refine V.needI ?_ ?_) <;> (try first | with_reducible exact V.okI | exact rfl | exact ⟨Nat.le_refl _, rfl⟩ | exact Nat.le_refl _ | assumption | omega | trivial | decide | (intros; rfl) | (intros; trivial)))
        all_goals try exact ⟨_, Nat.le_refl _⟩
        refine V.anyI fun c hc => ?_
        have hq : cntL (lvF g) tk xN l = y.ls l ∧ ∀ j, j < cntL (lvF g) tk xN l → entE (cE (Int.ofNat 1) (Int.ofNat 1) (Int.ofNat 8) D) r.m.g l j = y.S l j := by
          refine ⟨e2.symm, fun j hj => ?_⟩
          obtain ⟨i, hi3, hi4, hi5⟩ := cntL_lt hj
          have a1 := h.pos i hi3
          have a2 := p4 i (by omega)
          have a3 : (xa i).toNat = tk i := hTK i hi3
          have a4 := @cntL_congr (lvF g) (fun e => (xa e).toNat) tk i l (fun j hj => hTK j (by omega))
          rw [hi4, hi5] at a1
          have a2 : y.S (lvF g (xa i).toNat) (cntL (lvF g) (fun e => (xa e).toNat) i (lvF g (xa i).toNat)) = ((xa i).toNat : Int) := a2
          rw [a3, hi4, a4, hi5] at a2
          exact ((n3 j hj).trans a1).trans a2.symm
        ((repeat' first | with_reducible refine nN_h rfl ?_ | with_reducible refine V.brT ?_ | with_reducible refine V.brF ?_ | with_reducible refine V.needI ?_ ?_) <;> (try first | with_reducible exact V.okI | exact rfl | exact ⟨Nat.le_refl _, rfl⟩ | exact Nat.le_refl _ | assumption | omega | trivial | decide | (intros; rfl) | (intros; trivial)))
        all_goals try exact ⟨Int.natCast_nonneg _, by show (l : Int) < (3 : Int); omega⟩
        all_goals try exact ⟨Nat.zero_lt_one, h3⟩
        all_goals try exact fun i _ => ⟨onIs_le (Nat.le_refl _), onIs_le (p3 l)⟩
        all_goals try exact ⟨true, is_true hq⟩
        refine V.anyI fun b hb => ?_
        refine V.brI (fun h => ?_) fun _ => ?_
        · rw [hb.2 hq] at h
          cases h
        ((repeat' first | with_reducible refine nN_h rfl ?_ | with_reducible refine V.brT ?_ | with_reducible refine V.brF ?_ | with_reducible refine V.needI ?_ ?_) <;> (try first | with_reducible exact V.okI | exact rfl | exact ⟨Nat.le_refl _, rfl⟩ | exact Nat.le_refl _ | assumption | omega | trivial | decide | (intros; rfl) | (intros; trivial)))
        all_goals try exact (show l + 1 ≤ 3 by omega)
      · have hz : y.ls l = 0 := by
          by_cases c0 : cntL (lvF g) tk xN l = 0
          · rw [e2, c0]
          · exact absurd ⟨(by omega : (1 : Int) ≤ ((cntL (lvF g) tk xN l : Nat) : Int)), n2⟩ (of_decide_eq_false hb)
        have hq : 0 = y.ls l ∧ ∀ j, j < 0 → (fun _ => Int.ofNat 0 : Nat → Int) j = y.S l j := ⟨hz.symm, fun j hj => absurd hj (Nat.not_lt_zero _)⟩
        ((repeat' first | with_reducible refine nN_h rfl ?_ | with_reducible refine V.brT ?_ | with_reducible refine V.brF ?_ | with_reducible refine V.needI ?_ ?_) <;> (try first | with_reducible exact V.okI | exact rfl | exact ⟨Nat.le_refl _, rfl⟩ | exact Nat.le_refl _ | assumption | omega | trivial | decide | (intros; rfl) | (intros; trivial)))
        all_goals try exact ⟨Int.natCast_nonneg _, by show (l : Int) < (3 : Int); omega⟩
        all_goals try exact ⟨Nat.zero_lt_one, h3⟩
        all_goals try exact fun i _ => ⟨onIs_le (Nat.le_refl _), onIs_le (p3 l)⟩
        all_goals try exact ⟨true, is_true hq⟩
        refine V.anyI fun b hb => ?_
        refine V.brI (fun h => ?_) fun _ => ?_
        · rw [hb.2 hq] at h
          cases h
        ((repeat' first | with_reducible refine nN_h rfl ?_ | with_reducible refine V.brT ?_ | with_reducible refine V.brF ?_ | with_reducible refine V.needI ?_ ?_) <;> (try first | with_reducible exact V.okI | exact rfl | exact ⟨Nat.le_refl _, rfl⟩ | exact Nat.le_refl _ | assumption | omega | trivial | decide | (intros; rfl) | (intros; trivial)))
        all_goals try exact (show l + 1 ≤ 3 by omega)
theorem wf8 {n : Int} (h : (Lit.int .u8 n).wf = true) : 0 ≤ n ∧ n ≤ 255 := by
  simp [Lit.wf, IntKind.min, IntKind.max, IntKind.bits, IntKind.signed] at h; omega
theorem walkDt (ba de : Int) (a : Option Addr) (len cap : Nat) (g : Nat → Int) (W : World) (hb : (Lit.int .u8 ba).wf = true) (hd : (Lit.int .u8 de).wf = true) (h : IsInts .u8 W a len cap g) :
    Calls P 3 #[.int .u8 ba, .int .u8 de, .slice a len cap] W fun e w' => e = .returned (.bool true) ∧ Below W.heap.size W w' := by
  refine calls_yesV (vs := [.int .u8 ba, .int .u8 de, .slice a len cap]) (con23t_ok _ _ _ _) (ρ := fun k i => if k = 0 ∧ i = 0 then addr0 a else none) (vhDt (g := g) (len := len) (cap := cap) (wf8 hb) (wf8 hd) (fun v hv => ?_)) (views_inv fun k b hk => ?_) ⟨fun _ _ => rfl, fun _ _ => rfl, h.val (by simp) ⟨Nat.le_of_ble_eq_true rfl, trivial⟩, trivial⟩
  · exact wf8 (h.fits v hv)
  rw [find_cons] at hk
  split at hk
  · rename_i e; subst e
    cases hk
    exact ⟨rfl, by decide, h.sat (by simp)⟩
  · cases hk
end Go.Proofs.YtomaagmleafjeaaGreat.Md
