/- InjectorOrder: the conditions, printed by program. -/
import Derived.Test.YtomaagmleafjeaaMMdIoD
import Derived.Test.YtomaagmleafjeaaMW
import Derived.Test.YtomaagmleafjeaaMMdInR
import Derived.Test.YtomaagmleafjeaaMMdIn
import Derived.Test.YtomaagmleafjeaaMMdBr
set_option linter.unusedVariables false
set_option linter.unusedSimpArgs false
set_option linter.unusedVariables false
set_option maxRecDepth 100000
namespace Go.Proofs.Ytomaagmleafjeaa.Md
open Go Go.RowKit Sx Cn Dc Ck Vc

set_option maxHeartbeats 8000000 in
theorem verIo_eq (g : Nat → Int) (len cap : Nat) : verIo g len cap =
  V.br (decide ((↑len : Int) > Int.ofNat 64)) V.ok
    (V.need ((U8 0 fun (x : Nat) => Int.ofNat 0) ∧ 0 ≤ 9)
    (V.need (∃ (x : Nat × Nat × (Nat → Nat)), 1 ≤ x.fst)
    (V.any (Nat × Nat × (Nat → Nat)) (fun (x : Nat × Nat × (Nat → Nat)) => 1 ≤ x.fst) fun (x : Nat × Nat × (Nat → Nat)) => nN [(3, .eqI 1 1), (1, .eqI 256 256), (1, .eqI 1 1), (1, .eqI 64 64), (1, .eqI 1 1), (1, .eqI 0 0), (1, .eqI 1 1), (1, .eq 1 1), (1, .pf (x.fst = x.fst) rfl), (1, .eq 0 0), (1, .pf (x.snd.fst = x.snd.fst) rfl), (1, .le 1 1)]
    (V.need (1 ≤ 1 ∧ 1 ≤ x.fst)
    (nN [(1, .pf (∀ (i e : Nat), i = 0 ∧ e < 1 → e = e) (by intros; rfl)), (1, .pf (∀ (i e : Nat), i = 0 ∧ e < 1 → 0 = 0) (by intros; rfl)), (1, .pf (∀ (i e : Nat), i = 0 ∧ e < 1 → x.snd.snd e = x.snd.snd e) (by intros; rfl)), (1, .le 1 1)]
    (V.need (0 ≤ 0 ∧ 0 ≤ x.snd.fst)
    (nN [(1, .pf (∀ (i e : Nat), i = 0 ∧ e < 0 → uP (fun (x : Nat) => Int.ofNat 0) 0 e = uP (fun (x : Nat) => Int.ofNat 0) 0 e) (by intros; rfl)), (1, .pf (∀ (i e : Nat), i = 0 ∧ e < 0 → uL (fun (x : Nat) => Int.ofNat 0) 0 e = uL (fun (x : Nat) => Int.ofNat 0) 0 e) (by intros; rfl)), (1, .pf (∀ (i e : Nat), i = 0 ∧ e < 0 → uD (fun (x : Nat) => Int.ofNat 0) 0 e = uD (fun (x : Nat) => Int.ofNat 0) 0 e) (by intros; rfl))]
    (V.need (∀ (i : Nat), i < 1 → 0 ≤ gd 1 (fun (x : Nat) => 0) i ∧ 0 ≤ gd 1 (fun (e : Nat) => x.snd.snd e) i)
    (nN [(1, .pf (∀ (i e : Nat), i < 1 ∧ e < 0 → cO (fun (x : Nat) => Int.ofNat 0) 0 i e = cO (fun (x : Nat) => Int.ofNat 0) 0 i e) (by intros; rfl)), (1, .pf (∀ (i e : Nat), i < 1 ∧ e < 0 → cA (fun (x : Nat) => Int.ofNat 0) 0 i e = cA (fun (x : Nat) => Int.ofNat 0) 0 i e) (by intros; rfl)), (1, .pf (∀ (i e : Nat), i < 1 ∧ e < 0 → cB (fun (x : Nat) => Int.ofNat 0) 0 i e = cB (fun (x : Nat) => Int.ofNat 0) 0 i e) (by intros; rfl))]
    (V.need (errE (Cf.mk (Int.ofNat 1) (Int.ofNat 1) (Int.ofNat 1) (Int.ofNat 256) (Int.ofNat 1) (Int.ofNat 64) (Int.ofNat 1) (Int.ofNat 0) (Int.ofNat 1) 1 x.fst 0 x.snd.fst (fun (e : Nat) => 0) (fun (e : Nat) => x.snd.snd e) (fun (i e : Nat) => cO (fun (x : Nat) => Int.ofNat 0) 0 i e) (fun (i e : Nat) => cA (fun (x : Nat) => Int.ofNat 0) 0 i e) (fun (i e : Nat) => cB (fun (x : Nat) => Int.ofNat 0) 0 i e) (fun (e : Nat) => uP (fun (x : Nat) => Int.ofNat 0) 0 e) (fun (e : Nat) => uL (fun (x : Nat) => Int.ofNat 0) 0 e) fun (e : Nat) => uD (fun (x : Nat) => Int.ofNat 0) 0 e) = Int.ofNat 0)
    (V.need (∃ (x_1 : Cf × Nat), IsCl (Cf.mk (Int.ofNat 1) (Int.ofNat 1) (Int.ofNat 1) (Int.ofNat 256) (Int.ofNat 1) (Int.ofNat 64) (Int.ofNat 1) (Int.ofNat 0) (Int.ofNat 1) 1 x.fst 0 x.snd.fst (fun (e : Nat) => 0) (fun (e : Nat) => x.snd.snd e) (fun (i e : Nat) => cO (fun (x : Nat) => Int.ofNat 0) 0 i e) (fun (i e : Nat) => cA (fun (x : Nat) => Int.ofNat 0) 0 i e) (fun (i e : Nat) => cB (fun (x : Nat) => Int.ofNat 0) 0 i e) (fun (e : Nat) => uP (fun (x : Nat) => Int.ofNat 0) 0 e) (fun (e : Nat) => uL (fun (x : Nat) => Int.ofNat 0) 0 e) fun (e : Nat) => uD (fun (x : Nat) => Int.ofNat 0) 0 e) x_1.fst ∧ (Int.ofNat 256).toNat ≤ x_1.snd)
    (V.any (Cf × Nat) (fun (x_1 : Cf × Nat) => IsCl (Cf.mk (Int.ofNat 1) (Int.ofNat 1) (Int.ofNat 1) (Int.ofNat 256) (Int.ofNat 1) (Int.ofNat 64) (Int.ofNat 1) (Int.ofNat 0) (Int.ofNat 1) 1 x.fst 0 x.snd.fst (fun (e : Nat) => 0) (fun (e : Nat) => x.snd.snd e) (fun (i e : Nat) => cO (fun (x : Nat) => Int.ofNat 0) 0 i e) (fun (i e : Nat) => cA (fun (x : Nat) => Int.ofNat 0) 0 i e) (fun (i e : Nat) => cB (fun (x : Nat) => Int.ofNat 0) 0 i e) (fun (e : Nat) => uP (fun (x : Nat) => Int.ofNat 0) 0 e) (fun (e : Nat) => uL (fun (x : Nat) => Int.ofNat 0) 0 e) fun (e : Nat) => uD (fun (x : Nat) => Int.ofNat 0) 0 e) x_1.fst ∧ (Int.ofNat 256).toNat ≤ x_1.snd) fun (x_1 : Cf × Nat) => nN [(1, .pf (∃ (x_2 : Nat × Int), x_2 = (ncN (Cf.mk (Int.ofNat 1) (Int.ofNat 1) (Int.ofNat 1) (Int.ofNat 256) (Int.ofNat 1) (Int.ofNat 64) (Int.ofNat 1) (Int.ofNat 0) (Int.ofNat 1) 1 x.fst 0 x.snd.fst (fun (e : Nat) => 0) (fun (e : Nat) => x.snd.snd e) (fun (i e : Nat) => cO (fun (x : Nat) => Int.ofNat 0) 0 i e) (fun (i e : Nat) => cA (fun (x : Nat) => Int.ofNat 0) 0 i e) (fun (i e : Nat) => cB (fun (x : Nat) => Int.ofNat 0) 0 i e) (fun (e : Nat) => uP (fun (x : Nat) => Int.ofNat 0) 0 e) (fun (e : Nat) => uL (fun (x : Nat) => Int.ofNat 0) 0 e) fun (e : Nat) => uD (fun (x : Nat) => Int.ofNat 0) 0 e), lT (Cf.mk (Int.ofNat 1) (Int.ofNat 1) (Int.ofNat 1) (Int.ofNat 256) (Int.ofNat 1) (Int.ofNat 64) (Int.ofNat 1) (Int.ofNat 0) (Int.ofNat 1) 1 x.fst 0 x.snd.fst (fun (e : Nat) => 0) (fun (e : Nat) => x.snd.snd e) (fun (i e : Nat) => cO (fun (x : Nat) => Int.ofNat 0) 0 i e) (fun (i e : Nat) => cA (fun (x : Nat) => Int.ofNat 0) 0 i e) (fun (i e : Nat) => cB (fun (x : Nat) => Int.ofNat 0) 0 i e) (fun (e : Nat) => uP (fun (x : Nat) => Int.ofNat 0) 0 e) (fun (e : Nat) => uL (fun (x : Nat) => Int.ofNat 0) 0 e) fun (e : Nat) => uD (fun (x : Nat) => Int.ofNat 0) 0 e))) ⟨_, rfl⟩)]
    (V.any (Nat × Int) (fun (q : Nat × Int) => q = (ncN (Cf.mk (Int.ofNat 1) (Int.ofNat 1) (Int.ofNat 1) (Int.ofNat 256) (Int.ofNat 1) (Int.ofNat 64) (Int.ofNat 1) (Int.ofNat 0) (Int.ofNat 1) 1 x.fst 0 x.snd.fst (fun (e : Nat) => 0) (fun (e : Nat) => x.snd.snd e) (fun (i e : Nat) => cO (fun (x : Nat) => Int.ofNat 0) 0 i e) (fun (i e : Nat) => cA (fun (x : Nat) => Int.ofNat 0) 0 i e) (fun (i e : Nat) => cB (fun (x : Nat) => Int.ofNat 0) 0 i e) (fun (e : Nat) => uP (fun (x : Nat) => Int.ofNat 0) 0 e) (fun (e : Nat) => uL (fun (x : Nat) => Int.ofNat 0) 0 e) fun (e : Nat) => uD (fun (x : Nat) => Int.ofNat 0) 0 e), lT (Cf.mk (Int.ofNat 1) (Int.ofNat 1) (Int.ofNat 1) (Int.ofNat 256) (Int.ofNat 1) (Int.ofNat 64) (Int.ofNat 1) (Int.ofNat 0) (Int.ofNat 1) 1 x.fst 0 x.snd.fst (fun (e : Nat) => 0) (fun (e : Nat) => x.snd.snd e) (fun (i e : Nat) => cO (fun (x : Nat) => Int.ofNat 0) 0 i e) (fun (i e : Nat) => cA (fun (x : Nat) => Int.ofNat 0) 0 i e) (fun (i e : Nat) => cB (fun (x : Nat) => Int.ofNat 0) 0 i e) (fun (e : Nat) => uP (fun (x : Nat) => Int.ofNat 0) 0 e) (fun (e : Nat) => uL (fun (x : Nat) => Int.ofNat 0) 0 e) fun (e : Nat) => uD (fun (x : Nat) => Int.ofNat 0) 0 e))) fun (x : Nat × Int) => V.need True
    (V.need (0 ≤ len ∧ Int.ofNat 0 = (↑0 : Int) ∧ Int.ofNat 0 = (↑0 : Int) ∧ Hk len 0 (kO g) (fun (v : Nat) => decide (v < 0)) fun (j : Nat) => Int.ofNat 0)
    (V.need (Int.ofNat 0 = (↑0 : Int))
    (nN [(5, .eqI 0 0), (1, .eq 1354 1354), (1, .le 1354 1354), (1, .pf (∀ (e : Nat), e < 1354 → Int.ofNat 0 = Int.ofNat 0) (by intros; rfl))]
    (V.any XI1 (okI1 g len) fun (x : XI1) => V.br (decide ((↑x.i : Int) < (↑len : Int)))
    (V.need (Int.ofNat 0 ≤ (↑x.i : Int) ∧ (↑x.i : Int) < (↑len : Int))
    (V.need (0 < 1 ∧ 0 + (↑x.i : Int).toNat < len)
    (V.need (0 < 1 ∧ 0 + (↑x.i : Int).toNat < len)
    (nN [(1, .neI 32 0)]
    (V.need (Int.ofNat 200 = (↑200 : Int))
    (nN [(1, .le 1 1), (1, .pf (∀ (i : Nat), i < 1 → 1 ≤ 1) (by intros; exact Nat.le_refl _)), (1, .eqI 64 64), (3, .eqI 1 1), (1, .eqI 256 256), (1, .eqI 1 1), (1, .eqI 64 64), (1, .eqI 68 68), (1, .eqI 69 69), (1, .eqI 70 70), (1, .eqI 71 71), (1, .eqI 74 74), (1, .pf (x.m.lk = x.m.lk) rfl), (1, .pf (x.m.lc = x.m.lc) rfl), (1, .pf (x.m.lo = x.m.lo) rfl), (1, .pf (x.m.ln = x.m.ln) rfl), (1, .pf (x.m.ct = x.m.ct) rfl), (1, .eq 1354 1354), (1, .le 1354 1354), (1, .pf (∀ (e : Nat), e < 1354 → x.m.g e = x.m.g e) (by intros; rfl)), (1, .pf (IntKind.i64.wrap ((g (0 + (↑x.i : Int).toNat)).tmod (Int.ofNat 32)) = IntKind.i64.wrap ((g (0 + (↑x.i : Int).toNat)).tmod (Int.ofNat 32))) rfl), (1, .pf ((↑x.i : Int) = (↑x.i : Int)) rfl)]
    (V.need (pIJ (AP.mk (Ly.mk (Int.ofNat 1) (Int.ofNat 1) (Int.ofNat 1) (Int.ofNat 256) (Int.ofNat 1) (Int.ofNat 64) (Int.ofNat 68) (Int.ofNat 69) (Int.ofNat 70) (Int.ofNat 71) (Int.ofNat 74)) 8 9 (NV.k 1354) (NV.k 1354) (Mm.mk (fun (e : Nat) => x.m.g e) x.m.lk x.m.lc x.m.lo x.m.ln x.m.ct)) 200)
    (nN [(1, .pf (∃ (x_2 : Rs), x_2 = inR (Ly.mk (Int.ofNat 1) (Int.ofNat 1) (Int.ofNat 1) (Int.ofNat 256) (Int.ofNat 1) (Int.ofNat 64) (Int.ofNat 68) (Int.ofNat 69) (Int.ofNat 70) (Int.ofNat 71) (Int.ofNat 74)) 1354 (IntKind.i64.wrap ((g (0 + (↑x.i : Int).toNat)).tmod (Int.ofNat 32))) (↑x.i : Int) 200 (Mm.mk (fun (e : Nat) => x.m.g e) x.m.lk x.m.lc x.m.lo x.m.ln x.m.ct)) ⟨_, rfl⟩)]
    (V.any Rs (fun (r : Rs) => r = inR (Ly.mk (Int.ofNat 1) (Int.ofNat 1) (Int.ofNat 1) (Int.ofNat 256) (Int.ofNat 1) (Int.ofNat 64) (Int.ofNat 68) (Int.ofNat 69) (Int.ofNat 70) (Int.ofNat 71) (Int.ofNat 74)) 1354 (IntKind.i64.wrap ((g (0 + (↑x.i : Int).toNat)).tmod (Int.ofNat 32))) (↑x.i : Int) 200 (Mm.mk (fun (e : Nat) => x.m.g e) x.m.lk x.m.lc x.m.lo x.m.ln x.m.ct)) fun (x_2 : Rs) => V.br (x_2.c != Int.ofNat 0)
    (V.bad 420)
    (V.need ((IntKind.i64.wrap ((↑x.i : Int) + Int.ofNat 1)).toNat ≤ len ∧ x_2.m.g 2 = (↑(IntKind.i64.wrap ((↑x.i : Int) + Int.ofNat 1)).toNat : Int) ∧ x_2.m.g 3 = (↑(IntKind.i64.wrap ((↑x.i : Int) + Int.ofNat 1)).toNat : Int) ∧ Hk len (IntKind.i64.wrap ((↑x.i : Int) + Int.ofNat 1)).toNat (kO g) (fun (v : Nat) => decide (v < (IntKind.i64.wrap ((↑x.i : Int) + Int.ofNat 1)).toNat)) fun (j : Nat) => x_2.m.g (4 + j))
    (V.need (len - (IntKind.i64.wrap ((↑x.i : Int) + Int.ofNat 1)).toNat < len - x.i)
    (V.need (IntKind.i64.wrap ((↑x.i : Int) + Int.ofNat 1) = (↑(IntKind.i64.wrap ((↑x.i : Int) + Int.ofNat 1)).toNat : Int))
    (nN [(1, .pf (x_2.m.lk = x_2.m.lk) rfl), (1, .pf (x_2.m.lc = x_2.m.lc) rfl), (1, .pf (x_2.m.lo = x_2.m.lo) rfl), (1, .pf (x_2.m.ln = x_2.m.ln) rfl), (1, .pf (x_2.m.ct = x_2.m.ct) rfl), (1, .eq 1354 1354), (1, .le 1354 1354), (1, .pf (∀ (e : Nat), e < 1354 → x_2.m.g e = x_2.m.g e) (by intros; rfl))] V.ok)))))))))))))
    (V.need (Int.ofNat 0 ≤ (↑len : Int) ∧ (↑len : Int) ≤ (↑len : Int) ∧ (↑1 : Int) * (↑len : Int) ≤ Int.ofNat 281474976710656 ∧ (↑len : Int) ≤ Int.ofNat 9223372036854775807)
    (V.need (0 ≤ len ∧ x.m.g 2 = (↑(len - 0) : Int) ∧ (Hk len (len - 0) (kO g) (fun (v : Nat) => !false) fun (j : Nat) => x.m.g (4 + j)) ∧ (-Int.ofNat 1 ≤ Int.negSucc 0 ∧ Int.negSucc 0 < (↑len : Int)) ∧ (Int.ofNat 0 ≤ Int.negSucc 0 → ∀ (j : Nat), j < len - 0 → kO g (Int.negSucc 0).toNat ≤ x.m.g (4 + j)) ∧ 0 = 0 ∧ 0 ≤ 0)
    (V.need (Int.ofNat 0 = (↑0 : Int))
    (nN [(1, .pf (Int.negSucc 0 = Int.negSucc 0) rfl), (1, .pf (x.m.lk = x.m.lk) rfl), (1, .pf (x.m.lc = x.m.lc) rfl), (1, .pf (x.m.lo = x.m.lo) rfl), (1, .pf (x.m.ln = x.m.ln) rfl), (1, .pf (x.m.ct = x.m.ct) rfl), (1, .eq 1354 1354), (1, .le 1354 1354), (1, .pf (∀ (e : Nat), e < 1354 → x.m.g e = x.m.g e) (by intros; rfl)), (1, .eqI 64 64), (3, .eqI 1 1), (1, .eqI 256 256), (1, .eqI 1 1), (1, .eqI 64 64), (1, .eqI 68 68), (1, .eqI 69 69), (1, .eqI 70 70), (1, .eqI 71 71), (1, .eqI 74 74), (3, .eq 0 0), (1, .le 0 0), (5, .pf (∀ (e : Nat), e < 0 → Int.ofNat 0 = Int.ofNat 0) (by intros; rfl))]
    (V.need ((↑len : Int).toNat = len)
    (V.need (len ≤ (↑len : Int).toNat)
    (nN [(1, .pf (∀ (e : Nat), e < len → false = false) (by intros; rfl))]
    (V.any XI2 (okI2 g len) fun (x : XI2) => V.br (decide ((↑x.i : Int) < (↑len : Int)))
    (V.need (Int.ofNat 200 = (↑200 : Int))
    (nN [(1, .eqI 64 64), (3, .eqI 1 1), (1, .eqI 256 256), (1, .eqI 1 1), (1, .eqI 64 64), (1, .eqI 68 68), (1, .eqI 69 69), (1, .eqI 70 70), (1, .eqI 71 71), (1, .eqI 74 74), (1, .pf (x.l.n = x.l.n) rfl), (1, .pf (x.nc = x.nc) rfl), (1, .pf (x.m.lk = x.m.lk) rfl), (1, .pf (x.m.lc = x.m.lc) rfl), (1, .pf (x.m.lo = x.m.lo) rfl), (1, .pf (x.m.ln = x.m.ln) rfl), (1, .pf (x.m.ct = x.m.ct) rfl), (1, .eq 1354 1354), (1, .le 1354 1354), (1, .pf (∀ (e : Nat), e < 1354 → x.m.g e = x.m.g e) (by intros; rfl)), (1, .pf (x.nc = x.nc) rfl), (1, .pf (x.l.n ≤ x.l.n) (Nat.le_refl _)), (1, .pf (∀ (e : Nat), e < x.l.n → x.l.v.k e = x.l.v.k e) (by intros; rfl)), (1, .pf (∀ (e : Nat), e < x.l.n → x.l.v.w e = x.l.v.w e) (by intros; rfl)), (1, .pf (∀ (e : Nat), e < x.l.n → x.l.v.t e = x.l.v.t e) (by intros; rfl)), (1, .pf (∀ (e : Nat), e < x.l.n → x.l.v.o e = x.l.v.o e) (by intros; rfl)), (1, .pf (∀ (e : Nat), e < x.l.n → x.l.v.l e = x.l.v.l e) (by intros; rfl)), (1, .eqI 3 3)]
    (V.need (pIJ (AP.mk (Ly.mk (Int.ofNat 1) (Int.ofNat 1) (Int.ofNat 1) (Int.ofNat 256) (Int.ofNat 1) (Int.ofNat 64) (Int.ofNat 68) (Int.ofNat 69) (Int.ofNat 70) (Int.ofNat 71) (Int.ofNat 74)) 8 9 (NV.k 1354) (NV.k 1354) (Mm.mk (fun (e : Nat) => x.m.g e) x.m.lk x.m.lc x.m.lo x.m.ln x.m.ct)) 200 ∧ x.l.n ≤ x.nc ∧ x.l.n ≤ 1000)
    (V.need (∃ (x_2 : Re × Nat), x_2.fst = rmR (Ly.mk (Int.ofNat 1) (Int.ofNat 1) (Int.ofNat 1) (Int.ofNat 256) (Int.ofNat 1) (Int.ofNat 64) (Int.ofNat 68) (Int.ofNat 69) (Int.ofNat 70) (Int.ofNat 71) (Int.ofNat 74)) 1354 (Int.ofNat 3) 200 (Mm.mk (fun (e : Nat) => x.m.g e) x.m.lk x.m.lc x.m.lo x.m.ln x.m.ct) (El.mk x.l.n (Evs.mk (fun (i : Nat) => x.l.v.k i) (fun (i : Nat) => x.l.v.w i) (fun (i : Nat) => x.l.v.t i) (fun (i : Nat) => x.l.v.o i) fun (i : Nat) => x.l.v.l i)) ∧ (rmR (Ly.mk (Int.ofNat 1) (Int.ofNat 1) (Int.ofNat 1) (Int.ofNat 256) (Int.ofNat 1) (Int.ofNat 64) (Int.ofNat 68) (Int.ofNat 69) (Int.ofNat 70) (Int.ofNat 71) (Int.ofNat 74)) 1354 (Int.ofNat 3) 200 (Mm.mk (fun (e : Nat) => x.m.g e) x.m.lk x.m.lc x.m.lo x.m.ln x.m.ct) (El.mk x.l.n (Evs.mk (fun (i : Nat) => x.l.v.k i) (fun (i : Nat) => x.l.v.w i) (fun (i : Nat) => x.l.v.t i) (fun (i : Nat) => x.l.v.o i) fun (i : Nat) => x.l.v.l i))).l.n ≤ x_2.snd)
    (V.any (Re × Nat) (fun (r : Re × Nat) => r.fst = rmR (Ly.mk (Int.ofNat 1) (Int.ofNat 1) (Int.ofNat 1) (Int.ofNat 256) (Int.ofNat 1) (Int.ofNat 64) (Int.ofNat 68) (Int.ofNat 69) (Int.ofNat 70) (Int.ofNat 71) (Int.ofNat 74)) 1354 (Int.ofNat 3) 200 (Mm.mk (fun (e : Nat) => x.m.g e) x.m.lk x.m.lc x.m.lo x.m.ln x.m.ct) (El.mk x.l.n (Evs.mk (fun (i : Nat) => x.l.v.k i) (fun (i : Nat) => x.l.v.w i) (fun (i : Nat) => x.l.v.t i) (fun (i : Nat) => x.l.v.o i) fun (i : Nat) => x.l.v.l i)) ∧ (rmR (Ly.mk (Int.ofNat 1) (Int.ofNat 1) (Int.ofNat 1) (Int.ofNat 256) (Int.ofNat 1) (Int.ofNat 64) (Int.ofNat 68) (Int.ofNat 69) (Int.ofNat 70) (Int.ofNat 71) (Int.ofNat 74)) 1354 (Int.ofNat 3) 200 (Mm.mk (fun (e : Nat) => x.m.g e) x.m.lk x.m.lc x.m.lo x.m.ln x.m.ct) (El.mk x.l.n (Evs.mk (fun (i : Nat) => x.l.v.k i) (fun (i : Nat) => x.l.v.w i) (fun (i : Nat) => x.l.v.t i) (fun (i : Nat) => x.l.v.o i) fun (i : Nat) => x.l.v.l i))).l.n ≤ r.snd) fun (x_2 : Re × Nat) => V.br (x_2.fst.c != Int.ofNat 1)
    (V.bad 420)
    (V.br (decide (x_2.fst.v < Int.ofNat 0))
    (V.bad 420)
    (V.br (decide (x_2.fst.v ≥ (↑len : Int)))
    (V.bad 420)
    (V.need (Int.ofNat 0 ≤ x_2.fst.v ∧ x_2.fst.v < (↑(↑len : Int).toNat : Int))
    (V.need (0 + x_2.fst.v.toNat < len)
    (V.need (0 + x_2.fst.v.toNat < len)
    (V.br (x.sn (0 + x_2.fst.v.toNat))
    (V.bad 420)
    (V.br (decide (x.last ≥ Int.ofNat 0))
    (V.need (Int.ofNat 0 ≤ x_2.fst.v ∧ x_2.fst.v < (↑len : Int))
    (V.need (0 < 1 ∧ 0 + x_2.fst.v.toNat < len)
    (V.need (0 < 1 ∧ 0 + x_2.fst.v.toNat < len)
    (nN [(1, .neI 32 0)]
    (V.need (Int.ofNat 0 ≤ x.last ∧ x.last < (↑len : Int))
    (V.need (0 < 1 ∧ 0 + x.last.toNat < len)
    (V.need (0 < 1 ∧ 0 + x.last.toNat < len)
    (nN [(1, .neI 32 0)]
    (V.br (decide ((g (0 + x_2.fst.v.toNat)).tmod (Int.ofNat 32) < (g (0 + x.last.toNat)).tmod (Int.ofNat 32)))
    (V.bad 420)
    (V.need (Int.ofNat 0 ≤ x_2.fst.v ∧ x_2.fst.v < (↑len : Int))
    (V.need (0 < 1 ∧ 0 + x_2.fst.v.toNat < len)
    (V.need (0 < 1 ∧ 0 + x_2.fst.v.toNat < len)
    (nN [(1, .neI 32 0)]
    (V.need (Int.ofNat 0 ≤ x.last ∧ x.last < (↑len : Int))
    (V.need (0 < 1 ∧ 0 + x.last.toNat < len)
    (V.need (0 < 1 ∧ 0 + x.last.toNat < len)
    (nN [(1, .neI 32 0)]
    (V.br ((g (0 + x_2.fst.v.toNat)).tmod (Int.ofNat 32) == (g (0 + x.last.toNat)).tmod (Int.ofNat 32))
    (V.br (decide (x_2.fst.v < x.last))
    (V.bad 420)
    (V.br ((↑x_2.fst.l.n : Int) != IntKind.i64.wrap ((↑x.i : Int) + Int.ofNat 1))
    (V.bad 420)
    (V.need (Int.ofNat 0 ≤ (↑x.i : Int) ∧ (↑x.i : Int) < (↑x_2.fst.l.n : Int))
    (V.need (0 + (↑x.i : Int).toNat < x_2.fst.l.n)
    (V.need (0 + (↑x.i : Int).toNat < x_2.fst.l.n)
    (V.need (0 + (↑x.i : Int).toNat < x_2.fst.l.n)
    (V.need (0 + (↑x.i : Int).toNat < x_2.fst.l.n)
    (V.need (0 + (↑x.i : Int).toNat < x_2.fst.l.n)
    (V.need (0 + (↑x.i : Int).toNat < x_2.fst.l.n)
    (V.br (!(x_2.fst.l.v.k (0 + (↑x.i : Int).toNat) == Int.ofNat 13 && (x_2.fst.l.v.w (0 + (↑x.i : Int).toNat) == Int.ofNat 3 && (x_2.fst.l.v.t (0 + (↑x.i : Int).toNat) == x_2.fst.v && (x_2.fst.l.v.o (0 + (↑x.i : Int).toNat) == Int.ofNat 0 && (x_2.fst.l.v.l (0 + (↑x.i : Int).toNat) == Int.ofNat 0 && true))))))
    (V.bad 420)
    (V.need (Int.ofNat 0 ≤ x_2.fst.v ∧ x_2.fst.v < (↑(↑len : Int).toNat : Int))
    (V.need (0 + x_2.fst.v.toNat < len)
    (V.need (0 + x_2.fst.v.toNat < len)
    (V.need ((IntKind.i64.wrap ((↑x.i : Int) + Int.ofNat 1)).toNat ≤ len ∧ x_2.fst.m.g 2 = (↑(len - (IntKind.i64.wrap ((↑x.i : Int) + Int.ofNat 1)).toNat) : Int) ∧ (Hk len (len - (IntKind.i64.wrap ((↑x.i : Int) + Int.ofNat 1)).toNat) (kO g) (fun (v : Nat) => !if 0 = 0 ∧ v = 0 + x_2.fst.v.toNat then true else x.sn v) fun (j : Nat) => x_2.fst.m.g (4 + j)) ∧ (-Int.ofNat 1 ≤ x_2.fst.v ∧ x_2.fst.v < (↑len : Int)) ∧ (Int.ofNat 0 ≤ x_2.fst.v → ∀ (j : Nat), j < len - (IntKind.i64.wrap ((↑x.i : Int) + Int.ofNat 1)).toNat → kO g x_2.fst.v.toNat ≤ x_2.fst.m.g (4 + j)) ∧ x_2.fst.l.n = (IntKind.i64.wrap ((↑x.i : Int) + Int.ofNat 1)).toNat ∧ x_2.fst.l.n ≤ x_2.snd)
    (V.need (len - (IntKind.i64.wrap ((↑x.i : Int) + Int.ofNat 1)).toNat < len - x.i)
    (V.need (IntKind.i64.wrap ((↑x.i : Int) + Int.ofNat 1) = (↑(IntKind.i64.wrap ((↑x.i : Int) + Int.ofNat 1)).toNat : Int))
    (nN [(1, .pf (x_2.fst.v = x_2.fst.v) rfl), (1, .pf (x_2.fst.m.lk = x_2.fst.m.lk) rfl), (1, .pf (x_2.fst.m.lc = x_2.fst.m.lc) rfl), (1, .pf (x_2.fst.m.lo = x_2.fst.m.lo) rfl), (1, .pf (x_2.fst.m.ln = x_2.fst.m.ln) rfl), (1, .pf (x_2.fst.m.ct = x_2.fst.m.ct) rfl), (1, .eq 1354 1354), (1, .le 1354 1354), (1, .pf (∀ (e : Nat), e < 1354 → x_2.fst.m.g e = x_2.fst.m.g e) (by intros; rfl)), (1, .eqI 64 64), (3, .eqI 1 1), (1, .eqI 256 256), (1, .eqI 1 1), (1, .eqI 64 64), (1, .eqI 68 68), (1, .eqI 69 69), (1, .eqI 70 70), (1, .eqI 71 71), (1, .eqI 74 74), (1, .pf (x_2.fst.l.n = x_2.fst.l.n) rfl), (2, .pf (x_2.snd = x_2.snd) rfl), (1, .pf (x_2.fst.l.n ≤ x_2.fst.l.n) (Nat.le_refl _)), (1, .pf (∀ (e : Nat), e < x_2.fst.l.n → x_2.fst.l.v.k e = x_2.fst.l.v.k e) (by intros; rfl)), (1, .pf (∀ (e : Nat), e < x_2.fst.l.n → x_2.fst.l.v.w e = x_2.fst.l.v.w e) (by intros; rfl)), (1, .pf (∀ (e : Nat), e < x_2.fst.l.n → x_2.fst.l.v.t e = x_2.fst.l.v.t e) (by intros; rfl)), (1, .pf (∀ (e : Nat), e < x_2.fst.l.n → x_2.fst.l.v.o e = x_2.fst.l.v.o e) (by intros; rfl)), (1, .pf (∀ (e : Nat), e < x_2.fst.l.n → x_2.fst.l.v.l e = x_2.fst.l.v.l e) (by intros; rfl)), (1, .pf (len = len) rfl), (1, .pf (len ≤ len) (Nat.le_refl _))]
    (V.need (∀ (e : Nat), e < len → (if 0 = 0 ∧ e = 0 + x_2.fst.v.toNat then true else x.sn e) = if 0 = 0 ∧ e = 0 + x_2.fst.v.toNat then true else x.sn e) V.ok))))))))))))))))))
    (V.br ((↑x_2.fst.l.n : Int) != IntKind.i64.wrap ((↑x.i : Int) + Int.ofNat 1))
    (V.bad 420)
    (V.need (Int.ofNat 0 ≤ (↑x.i : Int) ∧ (↑x.i : Int) < (↑x_2.fst.l.n : Int))
    (V.need (0 + (↑x.i : Int).toNat < x_2.fst.l.n)
    (V.need (0 + (↑x.i : Int).toNat < x_2.fst.l.n)
    (V.need (0 + (↑x.i : Int).toNat < x_2.fst.l.n)
    (V.need (0 + (↑x.i : Int).toNat < x_2.fst.l.n)
    (V.need (0 + (↑x.i : Int).toNat < x_2.fst.l.n)
    (V.need (0 + (↑x.i : Int).toNat < x_2.fst.l.n)
    (V.br (!(x_2.fst.l.v.k (0 + (↑x.i : Int).toNat) == Int.ofNat 13 && (x_2.fst.l.v.w (0 + (↑x.i : Int).toNat) == Int.ofNat 3 && (x_2.fst.l.v.t (0 + (↑x.i : Int).toNat) == x_2.fst.v && (x_2.fst.l.v.o (0 + (↑x.i : Int).toNat) == Int.ofNat 0 && (x_2.fst.l.v.l (0 + (↑x.i : Int).toNat) == Int.ofNat 0 && true))))))
    (V.bad 420)
    (V.need (Int.ofNat 0 ≤ x_2.fst.v ∧ x_2.fst.v < (↑(↑len : Int).toNat : Int))
    (V.need (0 + x_2.fst.v.toNat < len)
    (V.need (0 + x_2.fst.v.toNat < len)
    (V.need ((IntKind.i64.wrap ((↑x.i : Int) + Int.ofNat 1)).toNat ≤ len ∧ x_2.fst.m.g 2 = (↑(len - (IntKind.i64.wrap ((↑x.i : Int) + Int.ofNat 1)).toNat) : Int) ∧ (Hk len (len - (IntKind.i64.wrap ((↑x.i : Int) + Int.ofNat 1)).toNat) (kO g) (fun (v : Nat) => !if 0 = 0 ∧ v = 0 + x_2.fst.v.toNat then true else x.sn v) fun (j : Nat) => x_2.fst.m.g (4 + j)) ∧ (-Int.ofNat 1 ≤ x_2.fst.v ∧ x_2.fst.v < (↑len : Int)) ∧ (Int.ofNat 0 ≤ x_2.fst.v → ∀ (j : Nat), j < len - (IntKind.i64.wrap ((↑x.i : Int) + Int.ofNat 1)).toNat → kO g x_2.fst.v.toNat ≤ x_2.fst.m.g (4 + j)) ∧ x_2.fst.l.n = (IntKind.i64.wrap ((↑x.i : Int) + Int.ofNat 1)).toNat ∧ x_2.fst.l.n ≤ x_2.snd)
    (V.need (len - (IntKind.i64.wrap ((↑x.i : Int) + Int.ofNat 1)).toNat < len - x.i)
    (V.need (IntKind.i64.wrap ((↑x.i : Int) + Int.ofNat 1) = (↑(IntKind.i64.wrap ((↑x.i : Int) + Int.ofNat 1)).toNat : Int))
    (nN [(1, .pf (x_2.fst.v = x_2.fst.v) rfl), (1, .pf (x_2.fst.m.lk = x_2.fst.m.lk) rfl), (1, .pf (x_2.fst.m.lc = x_2.fst.m.lc) rfl), (1, .pf (x_2.fst.m.lo = x_2.fst.m.lo) rfl), (1, .pf (x_2.fst.m.ln = x_2.fst.m.ln) rfl), (1, .pf (x_2.fst.m.ct = x_2.fst.m.ct) rfl), (1, .eq 1354 1354), (1, .le 1354 1354), (1, .pf (∀ (e : Nat), e < 1354 → x_2.fst.m.g e = x_2.fst.m.g e) (by intros; rfl)), (1, .eqI 64 64), (3, .eqI 1 1), (1, .eqI 256 256), (1, .eqI 1 1), (1, .eqI 64 64), (1, .eqI 68 68), (1, .eqI 69 69), (1, .eqI 70 70), (1, .eqI 71 71), (1, .eqI 74 74), (1, .pf (x_2.fst.l.n = x_2.fst.l.n) rfl), (2, .pf (x_2.snd = x_2.snd) rfl), (1, .pf (x_2.fst.l.n ≤ x_2.fst.l.n) (Nat.le_refl _)), (1, .pf (∀ (e : Nat), e < x_2.fst.l.n → x_2.fst.l.v.k e = x_2.fst.l.v.k e) (by intros; rfl)), (1, .pf (∀ (e : Nat), e < x_2.fst.l.n → x_2.fst.l.v.w e = x_2.fst.l.v.w e) (by intros; rfl)), (1, .pf (∀ (e : Nat), e < x_2.fst.l.n → x_2.fst.l.v.t e = x_2.fst.l.v.t e) (by intros; rfl)), (1, .pf (∀ (e : Nat), e < x_2.fst.l.n → x_2.fst.l.v.o e = x_2.fst.l.v.o e) (by intros; rfl)), (1, .pf (∀ (e : Nat), e < x_2.fst.l.n → x_2.fst.l.v.l e = x_2.fst.l.v.l e) (by intros; rfl)), (1, .pf (len = len) rfl), (1, .pf (len ≤ len) (Nat.le_refl _))]
    (V.need (∀ (e : Nat), e < len → (if 0 = 0 ∧ e = 0 + x_2.fst.v.toNat then true else x.sn e) = if 0 = 0 ∧ e = 0 + x_2.fst.v.toNat then true else x.sn e) V.ok)))))))))))))))))))))))))))))))))))
    (V.br ((↑x_2.fst.l.n : Int) != IntKind.i64.wrap ((↑x.i : Int) + Int.ofNat 1))
    (V.bad 420)
    (V.need (Int.ofNat 0 ≤ (↑x.i : Int) ∧ (↑x.i : Int) < (↑x_2.fst.l.n : Int))
    (V.need (0 + (↑x.i : Int).toNat < x_2.fst.l.n)
    (V.need (0 + (↑x.i : Int).toNat < x_2.fst.l.n)
    (V.need (0 + (↑x.i : Int).toNat < x_2.fst.l.n)
    (V.need (0 + (↑x.i : Int).toNat < x_2.fst.l.n)
    (V.need (0 + (↑x.i : Int).toNat < x_2.fst.l.n)
    (V.need (0 + (↑x.i : Int).toNat < x_2.fst.l.n)
    (V.br (!(x_2.fst.l.v.k (0 + (↑x.i : Int).toNat) == Int.ofNat 13 && (x_2.fst.l.v.w (0 + (↑x.i : Int).toNat) == Int.ofNat 3 && (x_2.fst.l.v.t (0 + (↑x.i : Int).toNat) == x_2.fst.v && (x_2.fst.l.v.o (0 + (↑x.i : Int).toNat) == Int.ofNat 0 && (x_2.fst.l.v.l (0 + (↑x.i : Int).toNat) == Int.ofNat 0 && true))))))
    (V.bad 420)
    (V.need (Int.ofNat 0 ≤ x_2.fst.v ∧ x_2.fst.v < (↑(↑len : Int).toNat : Int))
    (V.need (0 + x_2.fst.v.toNat < len)
    (V.need (0 + x_2.fst.v.toNat < len)
    (V.need ((IntKind.i64.wrap ((↑x.i : Int) + Int.ofNat 1)).toNat ≤ len ∧ x_2.fst.m.g 2 = (↑(len - (IntKind.i64.wrap ((↑x.i : Int) + Int.ofNat 1)).toNat) : Int) ∧ (Hk len (len - (IntKind.i64.wrap ((↑x.i : Int) + Int.ofNat 1)).toNat) (kO g) (fun (v : Nat) => !if 0 = 0 ∧ v = 0 + x_2.fst.v.toNat then true else x.sn v) fun (j : Nat) => x_2.fst.m.g (4 + j)) ∧ (-Int.ofNat 1 ≤ x_2.fst.v ∧ x_2.fst.v < (↑len : Int)) ∧ (Int.ofNat 0 ≤ x_2.fst.v → ∀ (j : Nat), j < len - (IntKind.i64.wrap ((↑x.i : Int) + Int.ofNat 1)).toNat → kO g x_2.fst.v.toNat ≤ x_2.fst.m.g (4 + j)) ∧ x_2.fst.l.n = (IntKind.i64.wrap ((↑x.i : Int) + Int.ofNat 1)).toNat ∧ x_2.fst.l.n ≤ x_2.snd)
    (V.need (len - (IntKind.i64.wrap ((↑x.i : Int) + Int.ofNat 1)).toNat < len - x.i)
    (V.need (IntKind.i64.wrap ((↑x.i : Int) + Int.ofNat 1) = (↑(IntKind.i64.wrap ((↑x.i : Int) + Int.ofNat 1)).toNat : Int))
    (nN [(1, .pf (x_2.fst.v = x_2.fst.v) rfl), (1, .pf (x_2.fst.m.lk = x_2.fst.m.lk) rfl), (1, .pf (x_2.fst.m.lc = x_2.fst.m.lc) rfl), (1, .pf (x_2.fst.m.lo = x_2.fst.m.lo) rfl), (1, .pf (x_2.fst.m.ln = x_2.fst.m.ln) rfl), (1, .pf (x_2.fst.m.ct = x_2.fst.m.ct) rfl), (1, .eq 1354 1354), (1, .le 1354 1354), (1, .pf (∀ (e : Nat), e < 1354 → x_2.fst.m.g e = x_2.fst.m.g e) (by intros; rfl)), (1, .eqI 64 64), (3, .eqI 1 1), (1, .eqI 256 256), (1, .eqI 1 1), (1, .eqI 64 64), (1, .eqI 68 68), (1, .eqI 69 69), (1, .eqI 70 70), (1, .eqI 71 71), (1, .eqI 74 74), (1, .pf (x_2.fst.l.n = x_2.fst.l.n) rfl), (2, .pf (x_2.snd = x_2.snd) rfl), (1, .pf (x_2.fst.l.n ≤ x_2.fst.l.n) (Nat.le_refl _)), (1, .pf (∀ (e : Nat), e < x_2.fst.l.n → x_2.fst.l.v.k e = x_2.fst.l.v.k e) (by intros; rfl)), (1, .pf (∀ (e : Nat), e < x_2.fst.l.n → x_2.fst.l.v.w e = x_2.fst.l.v.w e) (by intros; rfl)), (1, .pf (∀ (e : Nat), e < x_2.fst.l.n → x_2.fst.l.v.t e = x_2.fst.l.v.t e) (by intros; rfl)), (1, .pf (∀ (e : Nat), e < x_2.fst.l.n → x_2.fst.l.v.o e = x_2.fst.l.v.o e) (by intros; rfl)), (1, .pf (∀ (e : Nat), e < x_2.fst.l.n → x_2.fst.l.v.l e = x_2.fst.l.v.l e) (by intros; rfl)), (1, .pf (len = len) rfl), (1, .pf (len ≤ len) (Nat.le_refl _))]
    (V.need (∀ (e : Nat), e < len → (if 0 = 0 ∧ e = 0 + x_2.fst.v.toNat then true else x.sn e) = if 0 = 0 ∧ e = 0 + x_2.fst.v.toNat then true else x.sn e) V.ok)))))))))))))))))))))))))))))
    (V.need (Int.ofNat 200 = (↑200 : Int))
    (nN [(1, .eqI 64 64), (3, .eqI 1 1), (1, .eqI 256 256), (1, .eqI 1 1), (1, .eqI 64 64), (1, .eqI 68 68), (1, .eqI 69 69), (1, .eqI 70 70), (1, .eqI 71 71), (1, .eqI 74 74), (1, .pf (x.l.n = x.l.n) rfl), (1, .pf (x.nc = x.nc) rfl), (1, .pf (x.m.lk = x.m.lk) rfl), (1, .pf (x.m.lc = x.m.lc) rfl), (1, .pf (x.m.lo = x.m.lo) rfl), (1, .pf (x.m.ln = x.m.ln) rfl), (1, .pf (x.m.ct = x.m.ct) rfl), (1, .eq 1354 1354), (1, .le 1354 1354), (1, .pf (∀ (e : Nat), e < 1354 → x.m.g e = x.m.g e) (by intros; rfl)), (1, .pf (x.nc = x.nc) rfl), (1, .pf (x.l.n ≤ x.l.n) (Nat.le_refl _)), (1, .pf (∀ (e : Nat), e < x.l.n → x.l.v.k e = x.l.v.k e) (by intros; rfl)), (1, .pf (∀ (e : Nat), e < x.l.n → x.l.v.w e = x.l.v.w e) (by intros; rfl)), (1, .pf (∀ (e : Nat), e < x.l.n → x.l.v.t e = x.l.v.t e) (by intros; rfl)), (1, .pf (∀ (e : Nat), e < x.l.n → x.l.v.o e = x.l.v.o e) (by intros; rfl)), (1, .pf (∀ (e : Nat), e < x.l.n → x.l.v.l e = x.l.v.l e) (by intros; rfl)), (1, .eqI 0 0)]
    (V.need (pIJ (AP.mk (Ly.mk (Int.ofNat 1) (Int.ofNat 1) (Int.ofNat 1) (Int.ofNat 256) (Int.ofNat 1) (Int.ofNat 64) (Int.ofNat 68) (Int.ofNat 69) (Int.ofNat 70) (Int.ofNat 71) (Int.ofNat 74)) 8 9 (NV.k 1354) (NV.k 1354) (Mm.mk (fun (e : Nat) => x.m.g e) x.m.lk x.m.lc x.m.lo x.m.ln x.m.ct)) 200 ∧ x.l.n ≤ x.nc ∧ x.l.n ≤ 1000)
    (V.need (∃ (x_2 : Re × Nat), x_2.fst = rmR (Ly.mk (Int.ofNat 1) (Int.ofNat 1) (Int.ofNat 1) (Int.ofNat 256) (Int.ofNat 1) (Int.ofNat 64) (Int.ofNat 68) (Int.ofNat 69) (Int.ofNat 70) (Int.ofNat 71) (Int.ofNat 74)) 1354 (Int.ofNat 0) 200 (Mm.mk (fun (e : Nat) => x.m.g e) x.m.lk x.m.lc x.m.lo x.m.ln x.m.ct) (El.mk x.l.n (Evs.mk (fun (i : Nat) => x.l.v.k i) (fun (i : Nat) => x.l.v.w i) (fun (i : Nat) => x.l.v.t i) (fun (i : Nat) => x.l.v.o i) fun (i : Nat) => x.l.v.l i)) ∧ (rmR (Ly.mk (Int.ofNat 1) (Int.ofNat 1) (Int.ofNat 1) (Int.ofNat 256) (Int.ofNat 1) (Int.ofNat 64) (Int.ofNat 68) (Int.ofNat 69) (Int.ofNat 70) (Int.ofNat 71) (Int.ofNat 74)) 1354 (Int.ofNat 0) 200 (Mm.mk (fun (e : Nat) => x.m.g e) x.m.lk x.m.lc x.m.lo x.m.ln x.m.ct) (El.mk x.l.n (Evs.mk (fun (i : Nat) => x.l.v.k i) (fun (i : Nat) => x.l.v.w i) (fun (i : Nat) => x.l.v.t i) (fun (i : Nat) => x.l.v.o i) fun (i : Nat) => x.l.v.l i))).l.n ≤ x_2.snd)
    (V.any (Re × Nat) (fun (r : Re × Nat) => r.fst = rmR (Ly.mk (Int.ofNat 1) (Int.ofNat 1) (Int.ofNat 1) (Int.ofNat 256) (Int.ofNat 1) (Int.ofNat 64) (Int.ofNat 68) (Int.ofNat 69) (Int.ofNat 70) (Int.ofNat 71) (Int.ofNat 74)) 1354 (Int.ofNat 0) 200 (Mm.mk (fun (e : Nat) => x.m.g e) x.m.lk x.m.lc x.m.lo x.m.ln x.m.ct) (El.mk x.l.n (Evs.mk (fun (i : Nat) => x.l.v.k i) (fun (i : Nat) => x.l.v.w i) (fun (i : Nat) => x.l.v.t i) (fun (i : Nat) => x.l.v.o i) fun (i : Nat) => x.l.v.l i)) ∧ (rmR (Ly.mk (Int.ofNat 1) (Int.ofNat 1) (Int.ofNat 1) (Int.ofNat 256) (Int.ofNat 1) (Int.ofNat 64) (Int.ofNat 68) (Int.ofNat 69) (Int.ofNat 70) (Int.ofNat 71) (Int.ofNat 74)) 1354 (Int.ofNat 0) 200 (Mm.mk (fun (e : Nat) => x.m.g e) x.m.lk x.m.lc x.m.lo x.m.ln x.m.ct) (El.mk x.l.n (Evs.mk (fun (i : Nat) => x.l.v.k i) (fun (i : Nat) => x.l.v.w i) (fun (i : Nat) => x.l.v.t i) (fun (i : Nat) => x.l.v.o i) fun (i : Nat) => x.l.v.l i))).l.n ≤ r.snd) fun (x : Re × Nat) => V.need ((x.fst.c == Int.ofNat 2) = true) V.ok)))))))))))))))))))))))))))))) := by kernel_rfl


end Go.Proofs.Ytomaagmleafjeaa.Md

/- InjectorOrder: the conditions hold; the walk. -/
set_option linter.unusedVariables false
set_option linter.unusedSimpArgs false
set_option maxRecDepth 100000
namespace Go.Proofs.Ytomaagmleafjeaa.Md
open Go Go.RowKit Sx Cn Dc Ck Vc
theorem and_nat {x : Nat} (hx : x < 18446744073709551616) : bits .and .u64 (x : Int) 65535 = ((x % 65536 : Nat) : Int) := by
  have h : x &&& 65535 = x % 65536 := Nat.and_two_pow_sub_one_eq_mod x 16
  unfold bits
  show IntKind.u64.wrap (((BitVec.ofInt 64 (x : Int)) &&& (BitVec.ofInt 64 (65535 : Int))).toNat : Int) = _
  rw [BitVec.toNat_and, BitVec.ofInt_natCast, BitVec.toNat_ofNat, Nat.mod_eq_of_lt (by simpa using hx), show (BitVec.ofInt 64 65535).toNat = 65535 by decide, h, wu64]
  omega
section
variable {g : Nat → Int} {len : Nat}
theorem dO_bd {v : Nat} (hg : 0 ≤ g v ∧ g v ≤ 65535) : 0 ≤ dO g v ∧ dO g v ≤ 31 := by
  unfold dO
  rw [Int.tmod_eq_emod_of_nonneg hg.1]
  omega
theorem kO_e {v : Nat} (hg : 0 ≤ g v ∧ g v ≤ 65535) (hv : v ≤ 64) : pkB (dO g v) v v = true ∧ kO g v = dO g v * 1099511627776 + v * 65536 + v := by
  have := dO_bd hg
  exact pk_t (by omega)
theorem kO_inj {u v : Nat} (hu : 0 ≤ g u ∧ g u ≤ 65535) (hv : 0 ≤ g v ∧ g v ≤ 65535) (u64 : u ≤ 64) (v64 : v ≤ 64) (h : kO g u = kO g v) : u = v := by
  rw [(kO_e hu u64).2, (kO_e hv v64).2] at h
  have := dO_bd hu
  have := dO_bd hv
  omega
theorem kO_tk {v : Nat} (hv : 0 ≤ g v ∧ g v ≤ 65535) (v64 : v ≤ 64) : tkW (kO g v) = v := by
  have := dO_bd hv
  unfold tkW
  rw [(kO_e hv v64).2, show dO g v * 1099511627776 + (v : Int) * 65536 + v = (((dO g v).toNat * 1099511627776 + v * 65536 + v : Nat) : Int) by omega, and_nat (by omega), w64 (by omega)]
  omega
theorem kO_le {u v : Nat} (hu : 0 ≤ g u ∧ g u ≤ 65535) (hv : 0 ≤ g v ∧ g v ≤ 65535) (u64 : u ≤ 64) (v64 : v ≤ 64) (h : kO g u ≤ kO g v) : ¬ dO g v < dO g u ∧ (dO g v = dO g u → u ≤ v) := by
  rw [(kO_e hu u64).2, (kO_e hv v64).2] at h
  have := dO_bd hu
  have := dO_bd hv
  omega
end
theorem Hk.al {len n : Nat} {K : Nat → Int} {al al' : Nat → Bool} {a a' : Nat → Int} (h : Hk len n K al a) (he : ∀ v, v < len → al v = al' v) (ha : a = a') : Hk len n K al' a' := by
  subst ha
  exact ⟨h.heap, fun v hv => by rw [← he v hv]; exact h.uni v hv, h.own⟩
def yO : Ly := Ly.mk (Int.ofNat 1) (Int.ofNat 1) (Int.ofNat 1) (Int.ofNat 256) (Int.ofNat 1) (Int.ofNat 64) (Int.ofNat 68) (Int.ofNat 69) (Int.ofNat 70) (Int.ofNat 71) (Int.ofNat 74)
theorem yO_e : Ly.mk (Int.ofNat 1) (Int.ofNat 1) (Int.ofNat 1) (Int.ofNat 256) (Int.ofNat 1) (Int.ofNat 64) (Int.ofNat 68) (Int.ofNat 69) (Int.ofNat 70) (Int.ofNat 71) (Int.ofNat 74) = yO := rfl
theorem pijO {x : AP} (h : x.y.H = 64) : pIJ x 200 := ⟨⟨by omega, by omega⟩, by decide⟩
/-- One insertion. -/
theorem stepI {g : Nat → Int} {len i : Nat} {m : Mm} (h64 : len ≤ 64) (hg : ∀ v, v < len → 0 ≤ g v ∧ g v ≤ 65535) (hi : i < len) (h2 : m.g 2 = i) (h3 : m.g 3 = i) (hk : Hk len i (kO g) (fun v => decide (v < i)) (fun j => m.g (4 + j))) :
    (inR yO 1354 ((g i).tmod (Int.ofNat 32)) i 200 m).c = 0 ∧ (inR yO 1354 ((g i).tmod (Int.ofNat 32)) i 200 m).m.g 2 = ((i + 1 : Nat) : Int) ∧ (inR yO 1354 ((g i).tmod (Int.ofNat 32)) i 200 m).m.g 3 = ((i + 1 : Nat) : Int) ∧
    Hk len (i + 1) (kO g) (fun v => decide (v < i + 1)) (fun j => (inR yO 1354 ((g i).tmod (Int.ofNat 32)) i 200 m).m.g (4 + j)) := by
  have hH : yO.H = 64 := rfl
  have := ins_fine (y := yO) (n := 1354) (d := dO g i) (t := i) (m := m) (M := 200) (N := i) (a := i) (by omega) (by omega) (by omega) h2 (by omega) h3 (by omega) (kO_e (hg i hi) (by omega)).1
  obtain ⟨c, e⟩ := this
  refine ⟨c, ?_, ?_, ?_⟩
  · rw [show (g i).tmod (Int.ofNat 32) = dO g i from rfl, e, if_pos rfl]; omega
  · rw [show (g i).tmod (Int.ofNat 32) = dO g i from rfl, e, if_neg (by decide), if_pos rfl]; omega
  · refine (hk.push hi fun u v hu hv => kO_inj (hg u hu) (hg v hv) (by omega) (by omega)).al (fun _ _ => rfl) (funext fun j => ?_)
    rw [show (g i).tmod (Int.ofNat 32) = dO g i from rfl, e, if_neg (by omega), if_neg (by omega), if_pos (by omega), show 4 + j - 4 = j by omega]
    rfl
/-- One removal. -/
theorem stepR {g : Nat → Int} {len i : Nat} {m : Mm} {l : El} {al : Nat → Bool} {w : Int} (h64 : len ≤ 64) (hg : ∀ v, v < len → 0 ≤ g v ∧ g v ≤ 65535) (hi : i < len) (h2 : m.g 2 = ((len - i : Nat) : Int)) (hk : Hk len (len - i) (kO g) al (fun j => m.g (4 + j))) :
    ∃ v, v < len ∧ al v = true ∧ m.g 4 = kO g v ∧ (rmR yO 1354 w 200 m l).c = 1 ∧ (rmR yO 1354 w 200 m l).v = v ∧ (rmR yO 1354 w 200 m l).l = l.put 13 w v ∧ (rmR yO 1354 w 200 m l).m.g 2 = ((len - (i + 1) : Nat) : Int) ∧
      Hk len (len - (i + 1)) (kO g) (fun u => al u && !decide (u = v)) (fun j => (rmR yO 1354 w 200 m l).m.g (4 + j)) ∧ ∀ j, j < len - (i + 1) → kO g v ≤ (rmR yO 1354 w 200 m l).m.g (4 + j) := by
  have hH : yO.H = 64 := rfl
  obtain ⟨N, hN⟩ : ∃ N, len - i = N + 1 := ⟨len - i - 1, by omega⟩
  have hN2 : len - (i + 1) = N := by omega
  rw [hN] at h2 hk
  rw [hN2]
  obtain ⟨c, v, hl, e⟩ := rem_some (y := yO) (n := 1354) (w := w) (m := m) (l := l) (M := 200) (N := N) (by omega) (by omega) (by omega) h2 (by omega)
  obtain ⟨u, u1, u2, u3, u4, u5⟩ := hk.pop fun u v hu hv => kO_inj (hg u hu) (hg v hv) (by omega) (by omega)
  have u2 : m.g 4 = kO g u := u2
  rw [u2, kO_tk (hg u u1) (by omega)] at v hl
  have ea : (fun j => (rmR yO 1354 w 200 m l).m.g (4 + j)) = (if N = 0 then (fun j => m.g (4 + j)) else dnM N (m.g (4 + N)) N 0 (fun j => m.g (4 + j))) := funext fun j => by
    rw [e, if_neg (by omega), if_pos (by omega), show 4 + j - 4 = j by omega]
    rfl
  refine ⟨u, u1, u3, u2, c, v, hl, by rw [e, if_pos rfl], u4.al (fun _ _ => rfl) ea.symm, fun j hj => ?_⟩
  have := u5 j hj
  rw [← ea] at this
  exact this
set_option maxHeartbeats 8000000 in
theorem vhIo {g : Nat → Int} {len cap : Nat} (hg : ∀ v, v < len → 0 ≤ g v ∧ g v ≤ 65535) : VHolds (verIo g len cap) := by
  constructor
  rw [verIo_eq]
  refine V.brI (fun _ => V.okI) fun hlen => ?_
  have hl : len ≤ 64 := by simp at hlen; omega
  simp only [yO_e]
  (repeat' first | with_reducible exact V.okI | with_reducible refine V.anyCfg ?_ | with_reducible refine V.anyMm ?_ | with_reducible refine V.anyInt ?_ | with_reducible refine V.anyNat ?_ | with_reducible refine V.anyCl' ?_ | with_reducible refine nN_h rfl ?_ | with_reducible refine V.needI ?_ ?_ | with_reducible intro _)
  all_goals first
    | (first | rfl | exact True.intro | exact ⟨u8_0, by decide⟩ | exact ⟨(1, 0, fun _ => 0), Nat.le_refl _⟩ | exact ⟨Nat.le_refl _, by assumption⟩ | exact Nat.zero_le _ | exact ⟨Nat.zero_le _, Nat.zero_le _⟩ | exact ⟨(_, _), is_cl _, Nat.le_refl _⟩ | exact err9 (by unfold okN; simp only [Int.ofNat_eq_natCast]; omega) rfl rfl rfl | decide)
    | exact err9 (by unfold okN; dsimp only; omega) rfl rfl rfl
    | exact ⟨(_, _), is_cl _, Nat.le_refl _⟩
    | exact ⟨u8_0, by decide⟩
    | omega
    | skip
  refine V.anyI fun q _ => ?_
  (repeat' first | with_reducible exact V.okI | with_reducible refine V.anyCfg ?_ | with_reducible refine V.anyMm ?_ | with_reducible refine V.anyInt ?_ | with_reducible refine V.anyNat ?_ | with_reducible refine V.anyCl' ?_ | with_reducible refine nN_h rfl ?_ | with_reducible refine V.needI ?_ ?_ | with_reducible intro _)
  all_goals first
    | exact True.intro
    | omega
    | exact rfl
    | exact ⟨Nat.zero_le _, rfl, rfl, Hk.zero⟩
    | skip
  refine V.anyI fun x hx => ?_
  obtain ⟨o1, o2, o3, o4⟩ := hx
  refine V.brI (fun hi => ?_) fun hi => ?_
  · have hi : x.i < len := by have := of_decide_eq_true hi; omega
    have ei : IntKind.i64.wrap ((x.i : Int) + Int.ofNat 1) = ((x.i + 1 : Nat) : Int) := wnat (by omega)
    have ew : IntKind.i64.wrap ((g x.i).tmod (Int.ofNat 32)) = (g x.i).tmod (Int.ofNat 32) := by
      have := dO_bd (hg x.i hi)
      exact w64 (by show -9223372036854775808 ≤ dO g x.i ∧ dO g x.i ≤ 9223372036854775807; omega)
    simp only [ei, ew, Mm.eta, Int.toNat_natCast, Nat.zero_add]
    have hp := stepI hl hg hi o2 o3 o4
    (repeat' first | with_reducible exact V.okI | with_reducible refine V.anyCfg ?_ | with_reducible refine V.anyMm ?_ | with_reducible refine V.anyInt ?_ | with_reducible refine V.anyNat ?_ | with_reducible refine V.anyCl' ?_ | with_reducible refine nN_h rfl ?_ | with_reducible refine V.needI ?_ ?_ | with_reducible intro _)
    all_goals first
      | exact pijO rfl
      | exact rfl
      | omega
      | (simp only [Int.ofNat_eq_natCast, Int.natCast_zero]; omega)
      | skip
    refine V.anyI fun R hR => ?_
    rw [← show R = inR yO 1354 ((g x.i).tmod (Int.ofNat 32)) x.i 200 x.m from hR] at hp
    clear hR
    obtain ⟨p1, p2, p3, p4⟩ := hp
    have p1 : R.c = Int.ofNat 0 := p1
    (repeat' first | with_reducible exact V.okI | with_reducible refine V.brT ?_ | with_reducible refine V.brF ?_ | with_reducible refine V.brI ?_ ?_ | with_reducible refine V.anyI ?_ | with_reducible refine nN_h rfl ?_ | with_reducible refine V.needI ?_ ?_ | with_reducible intro _)
    all_goals first
      | with_reducible exact (cne p1 (by assumption)).elim
      | exact ⟨by omega, p2, p3, p4⟩
      | exact True.intro
      | exact rfl
      | omega
      | skip
  · have hi : x.i = len := by have := of_decide_eq_false hi; omega
    have o4 : Hk len len (kO g) (fun v => !false) (fun j => x.m.g (4 + j)) := by
      rw [hi] at o4
      exact o4.al (fun v hv => decide_eq_true hv) rfl
    rw [hi] at o2
    simp only [Mm.eta]
    (repeat' first | with_reducible exact V.okI | with_reducible refine V.anyCfg ?_ | with_reducible refine V.anyMm ?_ | with_reducible refine V.anyInt ?_ | with_reducible refine V.anyNat ?_ | with_reducible refine V.anyCl' ?_ | with_reducible refine nN_h rfl ?_ | with_reducible refine V.needI ?_ ?_ | with_reducible intro _)
    all_goals first
      | exact True.intro
      | omega
      | exact rfl
      | (simp only [Int.ofNat_eq_natCast, Int.natCast_zero, Int.natCast_one]; omega)
      | exact ⟨Nat.zero_le _, o2, o4, ⟨by decide, by omega⟩, fun h => absurd h (by decide), trivial, Nat.le_refl _⟩
      | skip
    clear o1 o2 o3 o4
    refine V.anyI fun x hx => ?_
    obtain ⟨o1, o2, o3, o4, o5, o6, o7⟩ := hx
    refine V.brI (fun hi => ?_) fun hi => ?_
    · have hi : x.i < len := by have := of_decide_eq_true hi; omega
      have ei : IntKind.i64.wrap ((x.i : Int) + Int.ofNat 1) = ((x.i + 1 : Nat) : Int) := wnat (by omega)
      simp only [ei, Int.toNat_natCast, Nat.zero_add]
      obtain ⟨v, v1, v2, v3, r1, r2, r3, r5, r6, r7⟩ := stepR (l := x.l) (w := 3) hl hg hi o2 o3
      have v2 : x.sn v = false := by simpa using v2
      have hlt : 0 ≤ x.last → ¬ dO g v < dO g x.last.toNat ∧ (dO g v = dO g x.last.toNat → x.last.toNat ≤ v) := fun h0 => by
        have := o5 h0 0 (by omega)
        rw [show 4 + 0 = 4 from rfl, v3] at this
        exact kO_le (hg _ (by omega)) (hg v v1) (by omega) (by omega) this
      (repeat' first | with_reducible exact V.okI | with_reducible refine V.anyCfg ?_ | with_reducible refine V.anyMm ?_ | with_reducible refine V.anyInt ?_ | with_reducible refine V.anyNat ?_ | with_reducible refine V.anyCl' ?_ | with_reducible refine nN_h rfl ?_ | with_reducible refine V.needI ?_ ?_ | with_reducible intro _)
      all_goals first
        | exact ⟨pijO rfl, o7, by omega⟩
        | exact rfl
        | exact ⟨(_, _), rfl, Nat.le_refl _⟩
        | omega
        | (simp only [Int.ofNat_eq_natCast, Int.natCast_zero, Int.natCast_one]; omega)
        | skip
      refine V.anyI fun R hR => ?_
      obtain ⟨R, nc⟩ := R
      obtain ⟨hR, hn⟩ := hR
      dsimp only at hR hn ⊢
      rw [← show R = rmR yO 1354 3 200 x.m x.l from hR] at r1 r2 r3 r5 r6 r7
      rw [← hR] at hn
      clear hR
      obtain ⟨rc, rv, rk, rm, rl⟩ := R
      dsimp only at r1 r2 r3 r5 r6 r7 hn ⊢
      subst r1 r2 r3
      have r6' : Hk len (len - (x.i + 1)) (kO g) (fun u => !if u = v then true else x.sn u) (fun j => rm.g (4 + j)) := r6.al (fun u _ => by
        by_cases c : u = v
        · simp [c]
        · simp [c]) rfl
      simp only [Int.toNat_natCast, true_and, El.put, o6, if_true] at hn ⊢
      (repeat' first | with_reducible exact V.okI | with_reducible refine V.brT ?_ | with_reducible refine V.brF ?_ | with_reducible refine V.brI ?_ ?_ | with_reducible refine V.anyI ?_ | with_reducible refine nN_h rfl ?_ | with_reducible refine V.needI ?_ ?_ | with_reducible intro _)
      all_goals first
        | exact True.intro
        | omega
        | exact ⟨by omega, r5, r6', ⟨by simp only [Int.ofNat_eq_natCast]; omega, by omega⟩, fun _ => r7, hn⟩
        | exact ⟨of_decide_eq_true ‹decide (x.last ≥ Int.ofNat 0) = true›, o4.2⟩
        | (simp only [Int.ofNat_eq_natCast, Int.natCast_zero, Int.natCast_one]; omega)
        | (rename_i h; exact absurd h (by decide))
        | (rename_i h; exact (dlt (by simp only [Int.ofNat_eq_natCast]; omega) h).elim)
        | (rename_i h; exact (dge (by omega) h).elim)
        | (rename_i h; exact (btf v2 h).elim)
        | (rename_i h; exact ((hlt (of_decide_eq_true ‹decide (x.last ≥ Int.ofNat 0) = true›)).1 (of_decide_eq_true h)).elim)
        | (rename_i h; have h1 := (hlt (of_decide_eq_true ‹decide (x.last ≥ Int.ofNat 0) = true›)).2 (eq_of_beq (by assumption)); have h2 := of_decide_eq_true h; omega)
        | (rename_i h; simp at h; done)
        | skip
    · have hi : x.i = len := by have := of_decide_eq_false hi; omega
      have o2 : x.m.g 2 = 0 := by rw [o2, hi, Nat.sub_self]; rfl
      have hz := (rem_none (y := yO) (n := 1354) (w := 0) (m := x.m) (l := x.l) (M := 200) (by decide) (by decide) (by decide) o2).1
      (repeat' first | with_reducible exact V.okI | with_reducible refine V.anyCfg ?_ | with_reducible refine V.anyMm ?_ | with_reducible refine V.anyInt ?_ | with_reducible refine V.anyNat ?_ | with_reducible refine V.anyCl' ?_ | with_reducible refine nN_h rfl ?_ | with_reducible refine V.needI ?_ ?_ | with_reducible intro _)
      all_goals first
        | exact ⟨pijO rfl, o7, by omega⟩
        | exact rfl
        | exact ⟨(_, _), rfl, Nat.le_refl _⟩
        | omega
        | (simp only [Int.ofNat_eq_natCast, Int.natCast_zero, Int.natCast_one]; omega)
        | skip
      refine V.anyI fun R hR => ?_
      rw [← show R.1 = rmR yO 1354 0 200 x.m x.l from hR.1] at hz
      (repeat' first | with_reducible exact V.okI | with_reducible refine V.brT ?_ | with_reducible refine V.brF ?_ | with_reducible refine V.brI ?_ ?_ | with_reducible refine V.anyI ?_ | with_reducible refine nN_h rfl ?_ | with_reducible refine V.needI ?_ ?_ | with_reducible intro _)
      all_goals first
        | (rw [hz]; rfl)
        | exact True.intro
        | skip
theorem conIo_ok : ConOK P conIo := .add aw16_ok (.add cAlI_ok (conN_ok conWN_ok))
theorem wf16 {n : Int} (h : (Lit.int .u16 n).wf = true) : 0 ≤ n ∧ n ≤ 65535 := by
  simp [Lit.wf, IntKind.min, IntKind.max, IntKind.bits, IntKind.signed] at h; omega
theorem walkIo (a : Option Addr) (len cap : Nat) (g : Nat → Int) (W : World) (h : IsInts .u16 W a len cap g) :
    Calls P 9 #[.slice a len cap] W fun e w' => e = .returned (.bool true) ∧ Below W.heap.size W w' := by
  refine calls_yesV (vs := [.slice a len cap]) conIo_ok (ρ := fun k i => if k = 0 ∧ i = 0 then addr0 a else none) (vhIo (fun e he => wf16 (h.fits e he))) (views_inv fun k b hk => ?_) ⟨h.val (by simp) ⟨Nat.le_of_ble_eq_true rfl, trivial⟩, trivial⟩
  rw [find_cons] at hk
  split at hk
  · rename_i e; subst e
    cases hk
    exact ⟨rfl, by decide, h.sat (by simp)⟩
  · cases hk
end Go.Proofs.Ytomaagmleafjeaa.Md
