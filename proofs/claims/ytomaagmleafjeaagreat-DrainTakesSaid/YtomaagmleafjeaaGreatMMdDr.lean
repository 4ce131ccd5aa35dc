/- Drain alone: the conditions, printed by program. -/
import Derived.Test.YtomaagmleafjeaaGreatMMdDrD
import Derived.Test.YtomaagmleafjeaaGreatMW
import Derived.Test.YtomaagmleafjeaaGreatMMdPuD
import Derived.Test.YtomaagmleafjeaaGreatMW
import Derived.Test.YtomaagmleafjeaaGreatMMdPop
import Derived.Test.YtomaagmleafjeaaGreatMMd
import Derived.Test.YtomaagmleafjeaaGreatMMdBr
set_option linter.unusedVariables false
set_option linter.unusedSimpArgs false
set_option linter.unusedVariables false
set_option maxRecDepth 100000
namespace Go.Proofs.YtomaagmleafjeaaGreat.Md
open Go Go.RowKit Sx Cn Dc Ck Vc

set_option maxHeartbeats 8000000 in
theorem verDr_eq (y : Ly) (z : Cz) (n cap : Nat) (w : Int) (M : Nat) (m : Mm) (l : El) (nc : Nat) (I : Nat × XDr × Nat → Prop) (φ : Re × Nat → Prop) : verDr y z n cap w M m l nc I φ =
  V.need (I (0, XDr.mk (Int.ofNat 0) (Int.ofNat 0) (Int.ofNat 0) (Int.ofNat 0) false (noRm (Int.ofNat 0) 0 m l) (Int.ofNat 0) (Int.ofNat 0) (Int.ofNat 0) (Int.ofNat 0) (Int.ofNat 0) (Int.ofNat 0), nc))
    (V.need (Int.ofNat 0 = (↑0 : Int))
    (nN [qE w, (4, .eqI 0 0), qE n, qE cap, qE m.lk, qE m.lc, qE m.lo, qE m.ln, qE m.ct, qE cap, qL n, qF n m.g, qE y.W, qE y.L, qE y.T, qE y.D, qE y.H, qE z.B, qE z.A, qE z.Q, qE z.nP, qE z.rc, qE z.nU, qE z.cu, qE y.W, qE y.L, qE y.C, qE y.T, qE y.D, qE y.H, qE y.sl, qE y.ep, qE y.bm, qE y.qu, qE y.tb, qE l.n, qE nc, qE nc, qL l.n, qF l.n l.v.k, qF l.n l.v.w, qF l.n l.v.t, qF l.n l.v.o, qF l.n l.v.l]
    (V.need (∀ (i : Nat), i < 0 → 0 ≤ 0 ∧ 0 ≤ 0)
    (V.need (∀ (i : Nat), i < 0 → 0 ≤ 0 ∧ 0 ≤ 0)
    (V.need (∀ (x : Nat × XDr × Nat), I x → x.fst < 9)
    (V.any Bool (fun (x : Bool) => True) fun (b : Bool) => V.br b
    (V.any (XDr × Nat) (fun (x : XDr × Nat) => I (0, x)) fun (x : XDr × Nat) => V.br (decide ((↑x.fst.r.s : Int) < (↑M : Int)))
    (nN [(16, .lt2 0 1 0 1), (1, .eqI 2 2), qE n, qE cap, qE x.fst.r.m.lk, qE x.fst.r.m.lc, qE x.fst.r.m.lo, qE x.fst.r.m.ln, qE x.fst.r.m.ct, qE cap, qL n, qF n x.fst.r.m.g, qX (x.fst.r.m.acc n (Int.ofNat 1) (Int.ofNat 2) (x.fst.r.m.val n (Int.ofNat 2)))]
    (V.any Mm (fun (m' : Mm) => m' = x.fst.r.m.acc n (Int.ofNat 1) (Int.ofNat 2) (x.fst.r.m.val n (Int.ofNat 2))) fun (x_1 : Mm) => nN [qX (x.fst.r.m.val n (Int.ofNat 2))]
    (V.any Int (fun (v : Int) => v = x.fst.r.m.val n (Int.ofNat 2)) fun (x_2 : Int) => V.br (decide (IntKind.i64.wrap x_2 ≤ Int.ofNat 0))
    (nN [(6, .lt2 0 1 0 1)]
    (V.need (φ (Re.mk (Int.ofNat 2) (Int.ofNat 0) (IntKind.i64.wrap ((↑x.fst.r.s : Int) + Int.ofNat 1)) x_1 x.fst.r.l, x.snd))
    (nN [(1, .eqI 2 2), (1, .eqI 0 0), qE (IntKind.i64.wrap ((↑x.fst.r.s : Int) + Int.ofNat 1)), qE y.W, qE y.L, qE y.T, qE y.D, qE y.H, qE z.B, qE z.A, qE z.Q, qE z.nP, qE z.rc, qE z.nU, qE z.cu, qE y.W, qE y.L, qE y.C, qE y.T, qE y.D, qE y.H, qE y.sl, qE y.ep, qE y.bm, qE y.qu, qE y.tb, qE x.fst.r.l.n, qE x.snd, qE n, qE cap, qE x_1.lk, qE x_1.lc, qE x_1.lo, qE x_1.ln, qE x_1.ct, qE cap, qL n, qF n x_1.g, qE x.snd, qL x.fst.r.l.n, qF x.fst.r.l.n x.fst.r.l.v.k, qF x.fst.r.l.n x.fst.r.l.v.w, qF x.fst.r.l.n x.fst.r.l.v.t, qF x.fst.r.l.n x.fst.r.l.v.o, qF x.fst.r.l.n x.fst.r.l.v.l] V.ok)))
    (V.need (I (1, XDr.mk x.fst.x x.fst.p x.fst.ls x.fst.c false (noRm (Int.ofNat 0) (IntKind.i64.wrap ((↑x.fst.r.s : Int) + Int.ofNat 1)).toNat x_1 x.fst.r.l) (Int.ofNat 0) (Int.ofNat 0) (Int.ofNat 0) (Int.ofNat 0) (Int.ofNat 0) (Int.ofNat 0), x.snd))
    (V.need (M - (IntKind.i64.wrap ((↑x.fst.r.s : Int) + Int.ofNat 1)).toNat < M - x.fst.r.s)
    (V.need (IntKind.i64.wrap ((↑x.fst.r.s : Int) + Int.ofNat 1) = (↑(IntKind.i64.wrap ((↑x.fst.r.s : Int) + Int.ofNat 1)).toNat : Int))
    (nN [qE w, qE x.fst.x, qE x.fst.p, qE x.fst.ls, qE x.fst.c, qE n, qE cap, qE x_1.lk, qE x_1.lc, qE x_1.lo, qE x_1.ln, qE x_1.ct, qE cap, qL n, qF n x_1.g, qE y.W, qE y.L, qE y.T, qE y.D, qE y.H, qE z.B, qE z.A, qE z.Q, qE z.nP, qE z.rc, qE z.nU, qE z.cu, qE y.W, qE y.L, qE y.C, qE y.T, qE y.D, qE y.H, qE y.sl, qE y.ep, qE y.bm, qE y.qu, qE y.tb, qE x.fst.r.l.n, qE x.snd, qE x.snd, qL x.fst.r.l.n, qF x.fst.r.l.n x.fst.r.l.v.k, qF x.fst.r.l.n x.fst.r.l.v.w, qF x.fst.r.l.n x.fst.r.l.v.t, qF x.fst.r.l.n x.fst.r.l.v.o, qF x.fst.r.l.n x.fst.r.l.v.l, qE w, (1, .le 0 0), (1, .pf (∀ (i : Nat), i < 0 → 0 ≤ 0) (by intros; exact Nat.le_refl _))] V.ok)))))))
    (V.need (φ (Re.mk (Int.negSucc 0) (Int.ofNat 0) (↑x.fst.r.s : Int) x.fst.r.m x.fst.r.l, x.snd))
    (nN [qE (Int.negSucc 0), (1, .eqI 0 0), qE ((↑x.fst.r.s : Int)), qE y.W, qE y.L, qE y.T, qE y.D, qE y.H, qE z.B, qE z.A, qE z.Q, qE z.nP, qE z.rc, qE z.nU, qE z.cu, qE y.W, qE y.L, qE y.C, qE y.T, qE y.D, qE y.H, qE y.sl, qE y.ep, qE y.bm, qE y.qu, qE y.tb, qE x.fst.r.l.n, qE x.snd, qE n, qE cap, qE x.fst.r.m.lk, qE x.fst.r.m.lc, qE x.fst.r.m.lo, qE x.fst.r.m.ln, qE x.fst.r.m.ct, qE cap, qL n, qF n x.fst.r.m.g, qE x.snd, qL x.fst.r.l.n, qF x.fst.r.l.n x.fst.r.l.v.k, qF x.fst.r.l.n x.fst.r.l.v.w, qF x.fst.r.l.n x.fst.r.l.v.t, qF x.fst.r.l.n x.fst.r.l.v.o, qF x.fst.r.l.n x.fst.r.l.v.l] V.ok)))
    (V.any Bool (fun (x : Bool) => True) fun (b : Bool) => V.br b
    (V.any (XDr × Nat) (fun (x : XDr × Nat) => I (1, x)) fun (x : XDr × Nat) => V.br (decide ((↑x.fst.r.s : Int) < (↑M : Int)))
    (nN [(19, .lt2 0 1 0 1), (1, .eqI 1 1), (1, .eqI 0 0), qE (IntKind.u64.wrap (IntKind.i64.wrap (w + Int.ofNat 1))), qE n, qE cap, qE x.fst.r.m.lk, qE x.fst.r.m.lc, qE x.fst.r.m.lo, qE x.fst.r.m.ln, qE x.fst.r.m.ct, qE cap, qL n, qF n x.fst.r.m.g, qX (x.fst.r.m.acc n (Int.ofNat 3) (Int.ofNat 1) (casV (x.fst.r.m.hit n (Int.ofNat 1) (Int.ofNat 0)) (x.fst.r.m.val n (Int.ofNat 1)) (IntKind.u64.wrap (IntKind.i64.wrap (w + Int.ofNat 1)))))]
    (V.any Mm (fun (m' : Mm) => m' = x.fst.r.m.acc n (Int.ofNat 3) (Int.ofNat 1) (casV (x.fst.r.m.hit n (Int.ofNat 1) (Int.ofNat 0)) (x.fst.r.m.val n (Int.ofNat 1)) (IntKind.u64.wrap (IntKind.i64.wrap (w + Int.ofNat 1))))) fun (x_1 : Mm) => nN [qX (x.fst.r.m.hit n (Int.ofNat 1) (Int.ofNat 0))]
    (V.any Bool (fun (v : Bool) => v = x.fst.r.m.hit n (Int.ofNat 1) (Int.ofNat 0)) fun (x_2 : Bool) => V.br x_2
    (nN [(6, .lt2 0 1 0 1)]
    (V.need (I (2, XDr.mk x.fst.x x.fst.p x.fst.ls x.fst.c false (XRm.mk (Int.ofNat 1) (Int.ofNat 0) (Int.ofNat 0) (Int.ofNat 0) (Int.ofNat 0) (Int.ofNat 0) (Int.ofNat 0) (IntKind.i64.wrap ((↑x.fst.r.s : Int) + Int.ofNat 1)).toNat x_1 x.fst.r.l) (Int.ofNat 0) (Int.ofNat 0) (Int.ofNat 0) (Int.ofNat 0) (Int.ofNat 0) (Int.ofNat 0), x.snd))
    (V.need (M - (IntKind.i64.wrap ((↑x.fst.r.s : Int) + Int.ofNat 1)).toNat < M - x.fst.r.s)
    (V.need (IntKind.i64.wrap ((↑x.fst.r.s : Int) + Int.ofNat 1) = (↑(IntKind.i64.wrap ((↑x.fst.r.s : Int) + Int.ofNat 1)).toNat : Int))
    (nN [qE w, qE x.fst.x, qE x.fst.p, qE x.fst.ls, qE x.fst.c, qE n, qE cap, qE x_1.lk, qE x_1.lc, qE x_1.lo, qE x_1.ln, qE x_1.ct, qE cap, qL n, qF n x_1.g, qE y.W, qE y.L, qE y.T, qE y.D, qE y.H, qE z.B, qE z.A, qE z.Q, qE z.nP, qE z.rc, qE z.nU, qE z.cu, qE y.W, qE y.L, qE y.C, qE y.T, qE y.D, qE y.H, qE y.sl, qE y.ep, qE y.bm, qE y.qu, qE y.tb, qE x.fst.r.l.n, qE x.snd, qE x.snd, qL x.fst.r.l.n, qF x.fst.r.l.n x.fst.r.l.v.k, qF x.fst.r.l.n x.fst.r.l.v.w, qF x.fst.r.l.n x.fst.r.l.v.t, qF x.fst.r.l.n x.fst.r.l.v.o, qF x.fst.r.l.n x.fst.r.l.v.l, qE w, (1, .eqI 1 1), (6, .eqI 0 0), (1, .le 0 0), (1, .pf (∀ (i : Nat), i < 0 → 0 ≤ 0) (by intros; exact Nat.le_refl _))] V.ok)))))
    (nN [(12, .lt2 0 1 0 1)]
    (V.need (φ (Re.mk (Int.ofNat 5) (Int.ofNat 0) (IntKind.i64.wrap ((↑x.fst.r.s : Int) + Int.ofNat 1)) x_1 x.fst.r.l, x.snd))
    (nN [(1, .eqI 5 5), (1, .eqI 0 0), qE (IntKind.i64.wrap ((↑x.fst.r.s : Int) + Int.ofNat 1)), qE y.W, qE y.L, qE y.T, qE y.D, qE y.H, qE z.B, qE z.A, qE z.Q, qE z.nP, qE z.rc, qE z.nU, qE z.cu, qE y.W, qE y.L, qE y.C, qE y.T, qE y.D, qE y.H, qE y.sl, qE y.ep, qE y.bm, qE y.qu, qE y.tb, qE x.fst.r.l.n, qE x.snd, qE n, qE cap, qE x_1.lk, qE x_1.lc, qE x_1.lo, qE x_1.ln, qE x_1.ct, qE cap, qL n, qF n x_1.g, qE x.snd, qL x.fst.r.l.n, qF x.fst.r.l.n x.fst.r.l.v.k, qF x.fst.r.l.n x.fst.r.l.v.w, qF x.fst.r.l.n x.fst.r.l.v.t, qF x.fst.r.l.n x.fst.r.l.v.o, qF x.fst.r.l.n x.fst.r.l.v.l] V.ok))))))
    (V.need (φ (Re.mk (Int.negSucc 0) (Int.ofNat 0) (↑x.fst.r.s : Int) x.fst.r.m x.fst.r.l, x.snd))
    (nN [qE (Int.negSucc 0), (1, .eqI 0 0), qE ((↑x.fst.r.s : Int)), qE y.W, qE y.L, qE y.T, qE y.D, qE y.H, qE z.B, qE z.A, qE z.Q, qE z.nP, qE z.rc, qE z.nU, qE z.cu, qE y.W, qE y.L, qE y.C, qE y.T, qE y.D, qE y.H, qE y.sl, qE y.ep, qE y.bm, qE y.qu, qE y.tb, qE x.fst.r.l.n, qE x.snd, qE n, qE cap, qE x.fst.r.m.lk, qE x.fst.r.m.lc, qE x.fst.r.m.lo, qE x.fst.r.m.ln, qE x.fst.r.m.ct, qE cap, qL n, qF n x.fst.r.m.g, qE x.snd, qL x.fst.r.l.n, qF x.fst.r.l.n x.fst.r.l.v.k, qF x.fst.r.l.n x.fst.r.l.v.w, qF x.fst.r.l.n x.fst.r.l.v.t, qF x.fst.r.l.n x.fst.r.l.v.o, qF x.fst.r.l.n x.fst.r.l.v.l] V.ok)))
    (V.any Bool (fun (x : Bool) => True) fun (b : Bool) => V.br b
    (V.any (XDr × Nat) (fun (x : XDr × Nat) => I (2, x)) fun (x : XDr × Nat) => V.br (decide ((↑x.fst.r.s : Int) < (↑M : Int)))
    (nN [(16, .lt2 0 1 0 1)]
    (V.br (x.fst.r.ln == Int.ofNat 5)
    (nN [(14, .lt2 0 1 0 1), qE (IntKind.i64.wrap (IntKind.i64.wrap (Int.ofNat 2 * x.fst.r.i) + Int.ofNat 1)), qE y.H, (1, .eqI 4 4), (1, .eqI 1 1)]
    (V.need (okAtT (IntKind.i64.wrap (IntKind.i64.wrap (Int.ofNat 2 * x.fst.r.i) + Int.ofNat 1)) y.H (Int.ofNat 4) (Int.ofNat 1))
    (nN [qX (atM (IntKind.i64.wrap (IntKind.i64.wrap (Int.ofNat 2 * x.fst.r.i) + Int.ofNat 1)) y.H (Int.ofNat 4) (Int.ofNat 1))]
    (V.any Int (fun (r : Int) => r = atM (IntKind.i64.wrap (IntKind.i64.wrap (Int.ofNat 2 * x.fst.r.i) + Int.ofNat 1)) y.H (Int.ofNat 4) (Int.ofNat 1)) fun (x_1 : Int) => nN [qE x_1, qE n, qE cap, qE x.fst.r.m.lk, qE x.fst.r.m.lc, qE x.fst.r.m.lo, qE x.fst.r.m.ln, qE x.fst.r.m.ct, qE cap, qL n, qF n x.fst.r.m.g, qX (x.fst.r.m.acc n (Int.ofNat 1) x_1 (x.fst.r.m.val n x_1))]
    (V.any Mm (fun (m' : Mm) => m' = x.fst.r.m.acc n (Int.ofNat 1) x_1 (x.fst.r.m.val n x_1)) fun (x_2 : Mm) => nN [qX (x.fst.r.m.val n x_1)]
    (V.any Int (fun (v : Int) => v = x.fst.r.m.val n x_1) fun (x_3 : Int) => nN [(8, .lt2 0 1 0 1)]
    (V.br (decide (x_3 < x.fst.r.y))
    (nN [(6, .lt2 0 1 0 1)]
    (V.br (decide (IntKind.i64.wrap (IntKind.i64.wrap (IntKind.i64.wrap (Int.ofNat 2 * x.fst.r.i) + Int.ofNat 1) + Int.ofNat 1) < IntKind.i64.wrap (x.fst.r.n - Int.ofNat 1)))
    (V.need (I (2, XDr.mk x.fst.x x.fst.p x.fst.ls x.fst.c false (XRm.mk (Int.ofNat 6) x.fst.r.n x.fst.r.i (IntKind.i64.wrap (IntKind.i64.wrap (Int.ofNat 2 * x.fst.r.i) + Int.ofNat 1)) x.fst.r.x x.fst.r.y x_3 (IntKind.i64.wrap ((↑x.fst.r.s : Int) + Int.ofNat 1)).toNat x_2 x.fst.r.l) (Int.ofNat 0) (Int.ofNat 0) (Int.ofNat 0) (Int.ofNat 0) (Int.ofNat 0) (Int.ofNat 0), x.snd))
    (V.need (M - (IntKind.i64.wrap ((↑x.fst.r.s : Int) + Int.ofNat 1)).toNat < M - x.fst.r.s)
    (V.need (IntKind.i64.wrap ((↑x.fst.r.s : Int) + Int.ofNat 1) = (↑(IntKind.i64.wrap ((↑x.fst.r.s : Int) + Int.ofNat 1)).toNat : Int))
    (nN [qE w, qE x.fst.x, qE x.fst.p, qE x.fst.ls, qE x.fst.c, qE n, qE cap, qE x_2.lk, qE x_2.lc, qE x_2.lo, qE x_2.ln, qE x_2.ct, qE cap, qL n, qF n x_2.g, qE y.W, qE y.L, qE y.T, qE y.D, qE y.H, qE z.B, qE z.A, qE z.Q, qE z.nP, qE z.rc, qE z.nU, qE z.cu, qE y.W, qE y.L, qE y.C, qE y.T, qE y.D, qE y.H, qE y.sl, qE y.ep, qE y.bm, qE y.qu, qE y.tb, qE x.fst.r.l.n, qE x.snd, qE x.snd, qL x.fst.r.l.n, qF x.fst.r.l.n x.fst.r.l.v.k, qF x.fst.r.l.n x.fst.r.l.v.w, qF x.fst.r.l.n x.fst.r.l.v.t, qF x.fst.r.l.n x.fst.r.l.v.o, qF x.fst.r.l.n x.fst.r.l.v.l, qE w, (1, .eqI 6 6), qE x.fst.r.n, qE x.fst.r.i, qE (IntKind.i64.wrap (IntKind.i64.wrap (Int.ofNat 2 * x.fst.r.i) + Int.ofNat 1)), qE x.fst.r.x, qE x.fst.r.y, qE x_3, (1, .le 0 0), (1, .pf (∀ (i : Nat), i < 0 → 0 ≤ 0) (by intros; exact Nat.le_refl _))] V.ok))))
    (V.need (I (2, XDr.mk x.fst.x x.fst.p x.fst.ls x.fst.c false (XRm.mk (Int.ofNat 7) x.fst.r.n x.fst.r.i (IntKind.i64.wrap (IntKind.i64.wrap (Int.ofNat 2 * x.fst.r.i) + Int.ofNat 1)) x.fst.r.x x.fst.r.y x_3 (IntKind.i64.wrap ((↑x.fst.r.s : Int) + Int.ofNat 1)).toNat x_2 x.fst.r.l) (Int.ofNat 0) (Int.ofNat 0) (Int.ofNat 0) (Int.ofNat 0) (Int.ofNat 0) (Int.ofNat 0), x.snd))
    (V.need (M - (IntKind.i64.wrap ((↑x.fst.r.s : Int) + Int.ofNat 1)).toNat < M - x.fst.r.s)
    (V.need (IntKind.i64.wrap ((↑x.fst.r.s : Int) + Int.ofNat 1) = (↑(IntKind.i64.wrap ((↑x.fst.r.s : Int) + Int.ofNat 1)).toNat : Int))
    (nN [qE w, qE x.fst.x, qE x.fst.p, qE x.fst.ls, qE x.fst.c, qE n, qE cap, qE x_2.lk, qE x_2.lc, qE x_2.lo, qE x_2.ln, qE x_2.ct, qE cap, qL n, qF n x_2.g, qE y.W, qE y.L, qE y.T, qE y.D, qE y.H, qE z.B, qE z.A, qE z.Q, qE z.nP, qE z.rc, qE z.nU, qE z.cu, qE y.W, qE y.L, qE y.C, qE y.T, qE y.D, qE y.H, qE y.sl, qE y.ep, qE y.bm, qE y.qu, qE y.tb, qE x.fst.r.l.n, qE x.snd, qE x.snd, qL x.fst.r.l.n, qF x.fst.r.l.n x.fst.r.l.v.k, qF x.fst.r.l.n x.fst.r.l.v.w, qF x.fst.r.l.n x.fst.r.l.v.t, qF x.fst.r.l.n x.fst.r.l.v.o, qF x.fst.r.l.n x.fst.r.l.v.l, qE w, (1, .eqI 7 7), qE x.fst.r.n, qE x.fst.r.i, qE (IntKind.i64.wrap (IntKind.i64.wrap (Int.ofNat 2 * x.fst.r.i) + Int.ofNat 1)), qE x.fst.r.x, qE x.fst.r.y, qE x_3, (1, .le 0 0), (1, .pf (∀ (i : Nat), i < 0 → 0 ≤ 0) (by intros; exact Nat.le_refl _))] V.ok))))))
    (nN [(6, .lt2 0 1 0 1)]
    (V.br (decide (IntKind.i64.wrap (IntKind.i64.wrap (IntKind.i64.wrap (Int.ofNat 2 * x.fst.r.i) + Int.ofNat 1) + Int.ofNat 1) < IntKind.i64.wrap (x.fst.r.n - Int.ofNat 1)))
    (V.need (I (2, XDr.mk x.fst.x x.fst.p x.fst.ls x.fst.c false (XRm.mk (Int.ofNat 6) x.fst.r.n x.fst.r.i (IntKind.i64.wrap (IntKind.i64.wrap (Int.ofNat 2 * x.fst.r.i) + Int.ofNat 1)) x.fst.r.x x.fst.r.y x_3 (IntKind.i64.wrap ((↑x.fst.r.s : Int) + Int.ofNat 1)).toNat x_2 x.fst.r.l) (Int.ofNat 0) (Int.ofNat 0) (Int.ofNat 0) (Int.ofNat 0) (Int.ofNat 0) (Int.ofNat 0), x.snd))
    (V.need (M - (IntKind.i64.wrap ((↑x.fst.r.s : Int) + Int.ofNat 1)).toNat < M - x.fst.r.s)
    (V.need (IntKind.i64.wrap ((↑x.fst.r.s : Int) + Int.ofNat 1) = (↑(IntKind.i64.wrap ((↑x.fst.r.s : Int) + Int.ofNat 1)).toNat : Int))
    (nN [qE w, qE x.fst.x, qE x.fst.p, qE x.fst.ls, qE x.fst.c, qE n, qE cap, qE x_2.lk, qE x_2.lc, qE x_2.lo, qE x_2.ln, qE x_2.ct, qE cap, qL n, qF n x_2.g, qE y.W, qE y.L, qE y.T, qE y.D, qE y.H, qE z.B, qE z.A, qE z.Q, qE z.nP, qE z.rc, qE z.nU, qE z.cu, qE y.W, qE y.L, qE y.C, qE y.T, qE y.D, qE y.H, qE y.sl, qE y.ep, qE y.bm, qE y.qu, qE y.tb, qE x.fst.r.l.n, qE x.snd, qE x.snd, qL x.fst.r.l.n, qF x.fst.r.l.n x.fst.r.l.v.k, qF x.fst.r.l.n x.fst.r.l.v.w, qF x.fst.r.l.n x.fst.r.l.v.t, qF x.fst.r.l.n x.fst.r.l.v.o, qF x.fst.r.l.n x.fst.r.l.v.l, qE w, (1, .eqI 6 6), qE x.fst.r.n, qE x.fst.r.i, qE (IntKind.i64.wrap (IntKind.i64.wrap (Int.ofNat 2 * x.fst.r.i) + Int.ofNat 1)), qE x.fst.r.x, qE x.fst.r.y, qE x_3, (1, .le 0 0), (1, .pf (∀ (i : Nat), i < 0 → 0 ≤ 0) (by intros; exact Nat.le_refl _))] V.ok))))
    (V.need (I (2, XDr.mk x.fst.x x.fst.p x.fst.ls x.fst.c false (XRm.mk (Int.ofNat 8) x.fst.r.n x.fst.r.i (IntKind.i64.wrap (IntKind.i64.wrap (Int.ofNat 2 * x.fst.r.i) + Int.ofNat 1)) x.fst.r.x x.fst.r.y x_3 (IntKind.i64.wrap ((↑x.fst.r.s : Int) + Int.ofNat 1)).toNat x_2 x.fst.r.l) (Int.ofNat 0) (Int.ofNat 0) (Int.ofNat 0) (Int.ofNat 0) (Int.ofNat 0) (Int.ofNat 0), x.snd))
    (V.need (M - (IntKind.i64.wrap ((↑x.fst.r.s : Int) + Int.ofNat 1)).toNat < M - x.fst.r.s)
    (V.need (IntKind.i64.wrap ((↑x.fst.r.s : Int) + Int.ofNat 1) = (↑(IntKind.i64.wrap ((↑x.fst.r.s : Int) + Int.ofNat 1)).toNat : Int))
    (nN [qE w, qE x.fst.x, qE x.fst.p, qE x.fst.ls, qE x.fst.c, qE n, qE cap, qE x_2.lk, qE x_2.lc, qE x_2.lo, qE x_2.ln, qE x_2.ct, qE cap, qL n, qF n x_2.g, qE y.W, qE y.L, qE y.T, qE y.D, qE y.H, qE z.B, qE z.A, qE z.Q, qE z.nP, qE z.rc, qE z.nU, qE z.cu, qE y.W, qE y.L, qE y.C, qE y.T, qE y.D, qE y.H, qE y.sl, qE y.ep, qE y.bm, qE y.qu, qE y.tb, qE x.fst.r.l.n, qE x.snd, qE x.snd, qL x.fst.r.l.n, qF x.fst.r.l.n x.fst.r.l.v.k, qF x.fst.r.l.n x.fst.r.l.v.w, qF x.fst.r.l.n x.fst.r.l.v.t, qF x.fst.r.l.n x.fst.r.l.v.o, qF x.fst.r.l.n x.fst.r.l.v.l, qE w, (1, .eqI 8 8), qE x.fst.r.n, qE x.fst.r.i, qE (IntKind.i64.wrap (IntKind.i64.wrap (Int.ofNat 2 * x.fst.r.i) + Int.ofNat 1)), qE x.fst.r.x, qE x.fst.r.y, qE x_3, (1, .le 0 0), (1, .pf (∀ (i : Nat), i < 0 → 0 ≤ 0) (by intros; exact Nat.le_refl _))] V.ok)))))))))))))
    (V.br (x.fst.r.ln == Int.ofNat 6)
    (nN [(14, .lt2 0 1 0 1), qE (IntKind.i64.wrap (IntKind.i64.wrap (Int.ofNat 2 * x.fst.r.i) + Int.ofNat 2)), qE y.H, (1, .eqI 4 4), (1, .eqI 1 1)]
    (V.need (okAtT (IntKind.i64.wrap (IntKind.i64.wrap (Int.ofNat 2 * x.fst.r.i) + Int.ofNat 2)) y.H (Int.ofNat 4) (Int.ofNat 1))
    (nN [qX (atM (IntKind.i64.wrap (IntKind.i64.wrap (Int.ofNat 2 * x.fst.r.i) + Int.ofNat 2)) y.H (Int.ofNat 4) (Int.ofNat 1))]
    (V.any Int (fun (r : Int) => r = atM (IntKind.i64.wrap (IntKind.i64.wrap (Int.ofNat 2 * x.fst.r.i) + Int.ofNat 2)) y.H (Int.ofNat 4) (Int.ofNat 1)) fun (x_1 : Int) => nN [qE x_1, qE n, qE cap, qE x.fst.r.m.lk, qE x.fst.r.m.lc, qE x.fst.r.m.lo, qE x.fst.r.m.ln, qE x.fst.r.m.ct, qE cap, qL n, qF n x.fst.r.m.g, qX (x.fst.r.m.acc n (Int.ofNat 1) x_1 (x.fst.r.m.val n x_1))]
    (V.any Mm (fun (m' : Mm) => m' = x.fst.r.m.acc n (Int.ofNat 1) x_1 (x.fst.r.m.val n x_1)) fun (x_2 : Mm) => nN [qX (x.fst.r.m.val n x_1)]
    (V.any Int (fun (v : Int) => v = x.fst.r.m.val n x_1) fun (x_3 : Int) => V.br (decide (x_3 < x.fst.r.z))
    (nN [(6, .lt2 0 1 0 1)]
    (V.br (decide (x_3 < x.fst.r.y))
    (V.need (I (2, XDr.mk x.fst.x x.fst.p x.fst.ls x.fst.c false (XRm.mk (Int.ofNat 7) x.fst.r.n x.fst.r.i (IntKind.i64.wrap (IntKind.i64.wrap (Int.ofNat 2 * x.fst.r.i) + Int.ofNat 2)) x.fst.r.x x.fst.r.y x_3 (IntKind.i64.wrap ((↑x.fst.r.s : Int) + Int.ofNat 1)).toNat x_2 x.fst.r.l) (Int.ofNat 0) (Int.ofNat 0) (Int.ofNat 0) (Int.ofNat 0) (Int.ofNat 0) (Int.ofNat 0), x.snd))
    (V.need (M - (IntKind.i64.wrap ((↑x.fst.r.s : Int) + Int.ofNat 1)).toNat < M - x.fst.r.s)
    (V.need (IntKind.i64.wrap ((↑x.fst.r.s : Int) + Int.ofNat 1) = (↑(IntKind.i64.wrap ((↑x.fst.r.s : Int) + Int.ofNat 1)).toNat : Int))
    (nN [qE w, qE x.fst.x, qE x.fst.p, qE x.fst.ls, qE x.fst.c, qE n, qE cap, qE x_2.lk, qE x_2.lc, qE x_2.lo, qE x_2.ln, qE x_2.ct, qE cap, qL n, qF n x_2.g, qE y.W, qE y.L, qE y.T, qE y.D, qE y.H, qE z.B, qE z.A, qE z.Q, qE z.nP, qE z.rc, qE z.nU, qE z.cu, qE y.W, qE y.L, qE y.C, qE y.T, qE y.D, qE y.H, qE y.sl, qE y.ep, qE y.bm, qE y.qu, qE y.tb, qE x.fst.r.l.n, qE x.snd, qE x.snd, qL x.fst.r.l.n, qF x.fst.r.l.n x.fst.r.l.v.k, qF x.fst.r.l.n x.fst.r.l.v.w, qF x.fst.r.l.n x.fst.r.l.v.t, qF x.fst.r.l.n x.fst.r.l.v.o, qF x.fst.r.l.n x.fst.r.l.v.l, qE w, (1, .eqI 7 7), qE x.fst.r.n, qE x.fst.r.i, qE (IntKind.i64.wrap (IntKind.i64.wrap (Int.ofNat 2 * x.fst.r.i) + Int.ofNat 2)), qE x.fst.r.x, qE x.fst.r.y, qE x_3, (1, .le 0 0), (1, .pf (∀ (i : Nat), i < 0 → 0 ≤ 0) (by intros; exact Nat.le_refl _))] V.ok))))
    (V.need (I (2, XDr.mk x.fst.x x.fst.p x.fst.ls x.fst.c false (XRm.mk (Int.ofNat 8) x.fst.r.n x.fst.r.i (IntKind.i64.wrap (IntKind.i64.wrap (Int.ofNat 2 * x.fst.r.i) + Int.ofNat 2)) x.fst.r.x x.fst.r.y x_3 (IntKind.i64.wrap ((↑x.fst.r.s : Int) + Int.ofNat 1)).toNat x_2 x.fst.r.l) (Int.ofNat 0) (Int.ofNat 0) (Int.ofNat 0) (Int.ofNat 0) (Int.ofNat 0) (Int.ofNat 0), x.snd))
    (V.need (M - (IntKind.i64.wrap ((↑x.fst.r.s : Int) + Int.ofNat 1)).toNat < M - x.fst.r.s)
    (V.need (IntKind.i64.wrap ((↑x.fst.r.s : Int) + Int.ofNat 1) = (↑(IntKind.i64.wrap ((↑x.fst.r.s : Int) + Int.ofNat 1)).toNat : Int))
    (nN [qE w, qE x.fst.x, qE x.fst.p, qE x.fst.ls, qE x.fst.c, qE n, qE cap, qE x_2.lk, qE x_2.lc, qE x_2.lo, qE x_2.ln, qE x_2.ct, qE cap, qL n, qF n x_2.g, qE y.W, qE y.L, qE y.T, qE y.D, qE y.H, qE z.B, qE z.A, qE z.Q, qE z.nP, qE z.rc, qE z.nU, qE z.cu, qE y.W, qE y.L, qE y.C, qE y.T, qE y.D, qE y.H, qE y.sl, qE y.ep, qE y.bm, qE y.qu, qE y.tb, qE x.fst.r.l.n, qE x.snd, qE x.snd, qL x.fst.r.l.n, qF x.fst.r.l.n x.fst.r.l.v.k, qF x.fst.r.l.n x.fst.r.l.v.w, qF x.fst.r.l.n x.fst.r.l.v.t, qF x.fst.r.l.n x.fst.r.l.v.o, qF x.fst.r.l.n x.fst.r.l.v.l, qE w, (1, .eqI 8 8), qE x.fst.r.n, qE x.fst.r.i, qE (IntKind.i64.wrap (IntKind.i64.wrap (Int.ofNat 2 * x.fst.r.i) + Int.ofNat 2)), qE x.fst.r.x, qE x.fst.r.y, qE x_3, (1, .le 0 0), (1, .pf (∀ (i : Nat), i < 0 → 0 ≤ 0) (by intros; exact Nat.le_refl _))] V.ok))))))
    (nN [(6, .lt2 0 1 0 1)]
    (V.br (decide (x.fst.r.z < x.fst.r.y))
    (V.need (I (2, XDr.mk x.fst.x x.fst.p x.fst.ls x.fst.c false (XRm.mk (Int.ofNat 7) x.fst.r.n x.fst.r.i x.fst.r.c x.fst.r.x x.fst.r.y x.fst.r.z (IntKind.i64.wrap ((↑x.fst.r.s : Int) + Int.ofNat 1)).toNat x_2 x.fst.r.l) (Int.ofNat 0) (Int.ofNat 0) (Int.ofNat 0) (Int.ofNat 0) (Int.ofNat 0) (Int.ofNat 0), x.snd))
    (V.need (M - (IntKind.i64.wrap ((↑x.fst.r.s : Int) + Int.ofNat 1)).toNat < M - x.fst.r.s)
    (V.need (IntKind.i64.wrap ((↑x.fst.r.s : Int) + Int.ofNat 1) = (↑(IntKind.i64.wrap ((↑x.fst.r.s : Int) + Int.ofNat 1)).toNat : Int))
    (nN [qE w, qE x.fst.x, qE x.fst.p, qE x.fst.ls, qE x.fst.c, qE n, qE cap, qE x_2.lk, qE x_2.lc, qE x_2.lo, qE x_2.ln, qE x_2.ct, qE cap, qL n, qF n x_2.g, qE y.W, qE y.L, qE y.T, qE y.D, qE y.H, qE z.B, qE z.A, qE z.Q, qE z.nP, qE z.rc, qE z.nU, qE z.cu, qE y.W, qE y.L, qE y.C, qE y.T, qE y.D, qE y.H, qE y.sl, qE y.ep, qE y.bm, qE y.qu, qE y.tb, qE x.fst.r.l.n, qE x.snd, qE x.snd, qL x.fst.r.l.n, qF x.fst.r.l.n x.fst.r.l.v.k, qF x.fst.r.l.n x.fst.r.l.v.w, qF x.fst.r.l.n x.fst.r.l.v.t, qF x.fst.r.l.n x.fst.r.l.v.o, qF x.fst.r.l.n x.fst.r.l.v.l, qE w, (1, .eqI 7 7), qE x.fst.r.n, qE x.fst.r.i, qE x.fst.r.c, qE x.fst.r.x, qE x.fst.r.y, qE x.fst.r.z, (1, .le 0 0), (1, .pf (∀ (i : Nat), i < 0 → 0 ≤ 0) (by intros; exact Nat.le_refl _))] V.ok))))
    (V.need (I (2, XDr.mk x.fst.x x.fst.p x.fst.ls x.fst.c false (XRm.mk (Int.ofNat 8) x.fst.r.n x.fst.r.i x.fst.r.c x.fst.r.x x.fst.r.y x.fst.r.z (IntKind.i64.wrap ((↑x.fst.r.s : Int) + Int.ofNat 1)).toNat x_2 x.fst.r.l) (Int.ofNat 0) (Int.ofNat 0) (Int.ofNat 0) (Int.ofNat 0) (Int.ofNat 0) (Int.ofNat 0), x.snd))
    (V.need (M - (IntKind.i64.wrap ((↑x.fst.r.s : Int) + Int.ofNat 1)).toNat < M - x.fst.r.s)
    (V.need (IntKind.i64.wrap ((↑x.fst.r.s : Int) + Int.ofNat 1) = (↑(IntKind.i64.wrap ((↑x.fst.r.s : Int) + Int.ofNat 1)).toNat : Int))
    (nN [qE w, qE x.fst.x, qE x.fst.p, qE x.fst.ls, qE x.fst.c, qE n, qE cap, qE x_2.lk, qE x_2.lc, qE x_2.lo, qE x_2.ln, qE x_2.ct, qE cap, qL n, qF n x_2.g, qE y.W, qE y.L, qE y.T, qE y.D, qE y.H, qE z.B, qE z.A, qE z.Q, qE z.nP, qE z.rc, qE z.nU, qE z.cu, qE y.W, qE y.L, qE y.C, qE y.T, qE y.D, qE y.H, qE y.sl, qE y.ep, qE y.bm, qE y.qu, qE y.tb, qE x.fst.r.l.n, qE x.snd, qE x.snd, qL x.fst.r.l.n, qF x.fst.r.l.n x.fst.r.l.v.k, qF x.fst.r.l.n x.fst.r.l.v.w, qF x.fst.r.l.n x.fst.r.l.v.t, qF x.fst.r.l.n x.fst.r.l.v.o, qF x.fst.r.l.n x.fst.r.l.v.l, qE w, (1, .eqI 8 8), qE x.fst.r.n, qE x.fst.r.i, qE x.fst.r.c, qE x.fst.r.x, qE x.fst.r.y, qE x.fst.r.z, (1, .le 0 0), (1, .pf (∀ (i : Nat), i < 0 → 0 ≤ 0) (by intros; exact Nat.le_refl _))] V.ok))))))))))))
    (V.br (x.fst.r.ln == Int.ofNat 7)
    (nN [(14, .lt2 0 1 0 1), qE x.fst.r.i, qE y.H, (1, .eqI 4 4), (1, .eqI 1 1)]
    (V.need (okAtT x.fst.r.i y.H (Int.ofNat 4) (Int.ofNat 1))
    (nN [qX (atM x.fst.r.i y.H (Int.ofNat 4) (Int.ofNat 1))]
    (V.any Int (fun (r : Int) => r = atM x.fst.r.i y.H (Int.ofNat 4) (Int.ofNat 1)) fun (x_1 : Int) => nN [(3, .lt2 0 1 0 1), qE x_1, qE x.fst.r.z, qE n, qE cap, qE x.fst.r.m.lk, qE x.fst.r.m.lc, qE x.fst.r.m.lo, qE x.fst.r.m.ln, qE x.fst.r.m.ct, qE cap, qL n, qF n x.fst.r.m.g, qX (x.fst.r.m.acc n (Int.ofNat 2) x_1 x.fst.r.z)]
    (V.any Mm (fun (m' : Mm) => m' = x.fst.r.m.acc n (Int.ofNat 2) x_1 x.fst.r.z) fun (x_2 : Mm) => nN [(6, .lt2 0 1 0 1)]
    (V.br (decide (IntKind.i64.wrap (IntKind.i64.wrap (Int.ofNat 2 * x.fst.r.c) + Int.ofNat 1) < IntKind.i64.wrap (x.fst.r.n - Int.ofNat 1)))
    (V.need (I (2, XDr.mk x.fst.x x.fst.p x.fst.ls x.fst.c false (XRm.mk (Int.ofNat 5) x.fst.r.n x.fst.r.c x.fst.r.c x.fst.r.x x.fst.r.y x.fst.r.z (IntKind.i64.wrap ((↑x.fst.r.s : Int) + Int.ofNat 1)).toNat x_2 x.fst.r.l) (Int.ofNat 0) (Int.ofNat 0) (Int.ofNat 0) (Int.ofNat 0) (Int.ofNat 0) (Int.ofNat 0), x.snd))
    (V.need (M - (IntKind.i64.wrap ((↑x.fst.r.s : Int) + Int.ofNat 1)).toNat < M - x.fst.r.s)
    (V.need (IntKind.i64.wrap ((↑x.fst.r.s : Int) + Int.ofNat 1) = (↑(IntKind.i64.wrap ((↑x.fst.r.s : Int) + Int.ofNat 1)).toNat : Int))
    (nN [qE w, qE x.fst.x, qE x.fst.p, qE x.fst.ls, qE x.fst.c, qE n, qE cap, qE x_2.lk, qE x_2.lc, qE x_2.lo, qE x_2.ln, qE x_2.ct, qE cap, qL n, qF n x_2.g, qE y.W, qE y.L, qE y.T, qE y.D, qE y.H, qE z.B, qE z.A, qE z.Q, qE z.nP, qE z.rc, qE z.nU, qE z.cu, qE y.W, qE y.L, qE y.C, qE y.T, qE y.D, qE y.H, qE y.sl, qE y.ep, qE y.bm, qE y.qu, qE y.tb, qE x.fst.r.l.n, qE x.snd, qE x.snd, qL x.fst.r.l.n, qF x.fst.r.l.n x.fst.r.l.v.k, qF x.fst.r.l.n x.fst.r.l.v.w, qF x.fst.r.l.n x.fst.r.l.v.t, qF x.fst.r.l.n x.fst.r.l.v.o, qF x.fst.r.l.n x.fst.r.l.v.l, qE w, (1, .eqI 5 5), qE x.fst.r.n, qE x.fst.r.c, qE x.fst.r.c, qE x.fst.r.x, qE x.fst.r.y, qE x.fst.r.z, (1, .le 0 0), (1, .pf (∀ (i : Nat), i < 0 → 0 ≤ 0) (by intros; exact Nat.le_refl _))] V.ok))))
    (V.need (I (2, XDr.mk x.fst.x x.fst.p x.fst.ls x.fst.c false (XRm.mk (Int.ofNat 8) x.fst.r.n x.fst.r.c x.fst.r.c x.fst.r.x x.fst.r.y x.fst.r.z (IntKind.i64.wrap ((↑x.fst.r.s : Int) + Int.ofNat 1)).toNat x_2 x.fst.r.l) (Int.ofNat 0) (Int.ofNat 0) (Int.ofNat 0) (Int.ofNat 0) (Int.ofNat 0) (Int.ofNat 0), x.snd))
    (V.need (M - (IntKind.i64.wrap ((↑x.fst.r.s : Int) + Int.ofNat 1)).toNat < M - x.fst.r.s)
    (V.need (IntKind.i64.wrap ((↑x.fst.r.s : Int) + Int.ofNat 1) = (↑(IntKind.i64.wrap ((↑x.fst.r.s : Int) + Int.ofNat 1)).toNat : Int))
    (nN [qE w, qE x.fst.x, qE x.fst.p, qE x.fst.ls, qE x.fst.c, qE n, qE cap, qE x_2.lk, qE x_2.lc, qE x_2.lo, qE x_2.ln, qE x_2.ct, qE cap, qL n, qF n x_2.g, qE y.W, qE y.L, qE y.T, qE y.D, qE y.H, qE z.B, qE z.A, qE z.Q, qE z.nP, qE z.rc, qE z.nU, qE z.cu, qE y.W, qE y.L, qE y.C, qE y.T, qE y.D, qE y.H, qE y.sl, qE y.ep, qE y.bm, qE y.qu, qE y.tb, qE x.fst.r.l.n, qE x.snd, qE x.snd, qL x.fst.r.l.n, qF x.fst.r.l.n x.fst.r.l.v.k, qF x.fst.r.l.n x.fst.r.l.v.w, qF x.fst.r.l.n x.fst.r.l.v.t, qF x.fst.r.l.n x.fst.r.l.v.o, qF x.fst.r.l.n x.fst.r.l.v.l, qE w, (1, .eqI 8 8), qE x.fst.r.n, qE x.fst.r.c, qE x.fst.r.c, qE x.fst.r.x, qE x.fst.r.y, qE x.fst.r.z, (1, .le 0 0), (1, .pf (∀ (i : Nat), i < 0 → 0 ≤ 0) (by intros; exact Nat.le_refl _))] V.ok))))))))))
    (V.br (x.fst.r.ln == Int.ofNat 8)
    (nN [(14, .lt2 0 1 0 1), qE x.fst.r.i, qE y.H, (1, .eqI 4 4), (1, .eqI 1 1)]
    (V.need (okAtT x.fst.r.i y.H (Int.ofNat 4) (Int.ofNat 1))
    (nN [qX (atM x.fst.r.i y.H (Int.ofNat 4) (Int.ofNat 1))]
    (V.any Int (fun (r : Int) => r = atM x.fst.r.i y.H (Int.ofNat 4) (Int.ofNat 1)) fun (x_1 : Int) => nN [(3, .lt2 0 1 0 1), qE x_1, qE x.fst.r.y, qE n, qE cap, qE x.fst.r.m.lk, qE x.fst.r.m.lc, qE x.fst.r.m.lo, qE x.fst.r.m.ln, qE x.fst.r.m.ct, qE cap, qL n, qF n x.fst.r.m.g, qX (x.fst.r.m.acc n (Int.ofNat 2) x_1 x.fst.r.y)]
    (V.any Mm (fun (m' : Mm) => m' = x.fst.r.m.acc n (Int.ofNat 2) x_1 x.fst.r.y) fun (x_2 : Mm) => nN [(5, .lt2 0 1 0 1), (1, .leI 0 40), (1, .leI 0 16), (6, .lt2 0 1 0 1)]
    (V.need (I (3, XDr.mk (IntKind.i64.wrap (bits BinOp.and IntKind.u64 x.fst.r.x (Int.ofNat 65535))) x.fst.p x.fst.ls x.fst.c false (noRm (Int.ofNat 0) (IntKind.i64.wrap ((↑x.fst.r.s : Int) + Int.ofNat 1)).toNat x_2 x.fst.r.l) (Int.ofNat 0) (Int.ofNat 0) (Int.ofNat 0) (Int.ofNat 0) (Int.ofNat 0) (Int.ofNat 0), x.snd))
    (V.need (M - (IntKind.i64.wrap ((↑x.fst.r.s : Int) + Int.ofNat 1)).toNat < M - x.fst.r.s)
    (V.need (IntKind.i64.wrap ((↑x.fst.r.s : Int) + Int.ofNat 1) = (↑(IntKind.i64.wrap ((↑x.fst.r.s : Int) + Int.ofNat 1)).toNat : Int))
    (nN [qE w, qE (IntKind.i64.wrap (bits BinOp.and IntKind.u64 x.fst.r.x (Int.ofNat 65535))), qE x.fst.p, qE x.fst.ls, qE x.fst.c, qE n, qE cap, qE x_2.lk, qE x_2.lc, qE x_2.lo, qE x_2.ln, qE x_2.ct, qE cap, qL n, qF n x_2.g, qE y.W, qE y.L, qE y.T, qE y.D, qE y.H, qE z.B, qE z.A, qE z.Q, qE z.nP, qE z.rc, qE z.nU, qE z.cu, qE y.W, qE y.L, qE y.C, qE y.T, qE y.D, qE y.H, qE y.sl, qE y.ep, qE y.bm, qE y.qu, qE y.tb, qE x.fst.r.l.n, qE x.snd, qE x.snd, qL x.fst.r.l.n, qF x.fst.r.l.n x.fst.r.l.v.k, qF x.fst.r.l.n x.fst.r.l.v.w, qF x.fst.r.l.n x.fst.r.l.v.t, qF x.fst.r.l.n x.fst.r.l.v.o, qF x.fst.r.l.n x.fst.r.l.v.l, (1, .le 0 0), (1, .pf (∀ (i : Nat), i < 0 → 0 ≤ 0) (by intros; exact Nat.le_refl _))] V.ok)))))))))
    (nN [(16, .lt2 0 1 0 1)]
    (V.br (x.fst.r.ln == Int.ofNat 1)
    (nN [(1, .eqI 2 2), qE n, qE cap, qE x.fst.r.m.lk, qE x.fst.r.m.lc, qE x.fst.r.m.lo, qE x.fst.r.m.ln, qE x.fst.r.m.ct, qE cap, qL n, qF n x.fst.r.m.g, qX (x.fst.r.m.acc n (Int.ofNat 1) (Int.ofNat 2) (x.fst.r.m.val n (Int.ofNat 2)))]
    (V.any Mm (fun (m' : Mm) => m' = x.fst.r.m.acc n (Int.ofNat 1) (Int.ofNat 2) (x.fst.r.m.val n (Int.ofNat 2))) fun (x_1 : Mm) => nN [qX (x.fst.r.m.val n (Int.ofNat 2))]
    (V.any Int (fun (v : Int) => v = x.fst.r.m.val n (Int.ofNat 2)) fun (x_2 : Int) => V.br (decide (IntKind.i64.wrap x_2 ≤ Int.ofNat 0))
    (nN [(6, .lt2 0 1 0 1)]
    (V.need (I (7, XDr.mk x.fst.x x.fst.p x.fst.ls x.fst.c false (noRm (Int.ofNat 0) (IntKind.i64.wrap ((↑x.fst.r.s : Int) + Int.ofNat 1)).toNat x_1 x.fst.r.l) (Int.ofNat 0) (Int.ofNat 0) (Int.ofNat 0) (Int.ofNat 0) (Int.ofNat 0) (Int.ofNat 0), x.snd))
    (V.need (M - (IntKind.i64.wrap ((↑x.fst.r.s : Int) + Int.ofNat 1)).toNat < M - x.fst.r.s)
    (V.need (IntKind.i64.wrap ((↑x.fst.r.s : Int) + Int.ofNat 1) = (↑(IntKind.i64.wrap ((↑x.fst.r.s : Int) + Int.ofNat 1)).toNat : Int))
    (nN [qE w, qE x.fst.x, qE false, qE x.fst.p, qE x.fst.ls, qE x.fst.c, qE n, qE cap, qE x_1.lk, qE x_1.lc, qE x_1.lo, qE x_1.ln, qE x_1.ct, qE cap, qL n, qF n x_1.g, qE y.W, qE y.L, qE y.T, qE y.D, qE y.H, qE z.B, qE z.A, qE z.Q, qE z.nP, qE z.rc, qE z.nU, qE z.cu, qE y.W, qE y.L, qE y.C, qE y.T, qE y.D, qE y.H, qE y.sl, qE y.ep, qE y.bm, qE y.qu, qE y.tb, qE x.fst.r.l.n, qE x.snd, qE x.snd, qL x.fst.r.l.n, qF x.fst.r.l.n x.fst.r.l.v.k, qF x.fst.r.l.n x.fst.r.l.v.w, qF x.fst.r.l.n x.fst.r.l.v.t, qF x.fst.r.l.n x.fst.r.l.v.o, qF x.fst.r.l.n x.fst.r.l.v.l, (1, .le 0 0), (1, .pf (∀ (i : Nat), i < 0 → 0 ≤ 0) (by intros; exact Nat.le_refl _))] V.ok)))))
    (V.need (I (2, XDr.mk x.fst.x x.fst.p x.fst.ls x.fst.c false (XRm.mk (Int.ofNat 2) (IntKind.i64.wrap x_2) x.fst.r.i x.fst.r.c x.fst.r.x x.fst.r.y x.fst.r.z (IntKind.i64.wrap ((↑x.fst.r.s : Int) + Int.ofNat 1)).toNat x_1 x.fst.r.l) (Int.ofNat 0) (Int.ofNat 0) (Int.ofNat 0) (Int.ofNat 0) (Int.ofNat 0) (Int.ofNat 0), x.snd))
    (V.need (M - (IntKind.i64.wrap ((↑x.fst.r.s : Int) + Int.ofNat 1)).toNat < M - x.fst.r.s)
    (V.need (IntKind.i64.wrap ((↑x.fst.r.s : Int) + Int.ofNat 1) = (↑(IntKind.i64.wrap ((↑x.fst.r.s : Int) + Int.ofNat 1)).toNat : Int))
    (nN [qE w, qE x.fst.x, qE x.fst.p, qE x.fst.ls, qE x.fst.c, qE n, qE cap, qE x_1.lk, qE x_1.lc, qE x_1.lo, qE x_1.ln, qE x_1.ct, qE cap, qL n, qF n x_1.g, qE y.W, qE y.L, qE y.T, qE y.D, qE y.H, qE z.B, qE z.A, qE z.Q, qE z.nP, qE z.rc, qE z.nU, qE z.cu, qE y.W, qE y.L, qE y.C, qE y.T, qE y.D, qE y.H, qE y.sl, qE y.ep, qE y.bm, qE y.qu, qE y.tb, qE x.fst.r.l.n, qE x.snd, qE x.snd, qL x.fst.r.l.n, qF x.fst.r.l.n x.fst.r.l.v.k, qF x.fst.r.l.n x.fst.r.l.v.w, qF x.fst.r.l.n x.fst.r.l.v.t, qF x.fst.r.l.n x.fst.r.l.v.o, qF x.fst.r.l.n x.fst.r.l.v.l, qE w, (1, .eqI 2 2), qE (IntKind.i64.wrap x_2), qE x.fst.r.i, qE x.fst.r.c, qE x.fst.r.x, qE x.fst.r.y, qE x.fst.r.z, (1, .le 0 0), (1, .pf (∀ (i : Nat), i < 0 → 0 ≤ 0) (by intros; exact Nat.le_refl _))] V.ok)))))))
    (V.br (x.fst.r.ln == Int.ofNat 2)
    (nN [(1, .eqI 0 0), qE y.H, (1, .eqI 4 4), (1, .eqI 1 1)]
    (V.need (okAtT (Int.ofNat 0) y.H (Int.ofNat 4) (Int.ofNat 1))
    (nN [qX (atM (Int.ofNat 0) y.H (Int.ofNat 4) (Int.ofNat 1))]
    (V.any Int (fun (r : Int) => r = atM (Int.ofNat 0) y.H (Int.ofNat 4) (Int.ofNat 1)) fun (x_1 : Int) => nN [qE x_1, qE n, qE cap, qE x.fst.r.m.lk, qE x.fst.r.m.lc, qE x.fst.r.m.lo, qE x.fst.r.m.ln, qE x.fst.r.m.ct, qE cap, qL n, qF n x.fst.r.m.g, qX (x.fst.r.m.acc n (Int.ofNat 1) x_1 (x.fst.r.m.val n x_1))]
    (V.any Mm (fun (m' : Mm) => m' = x.fst.r.m.acc n (Int.ofNat 1) x_1 (x.fst.r.m.val n x_1)) fun (x_2 : Mm) => nN [qX (x.fst.r.m.val n x_1)]
    (V.any Int (fun (v : Int) => v = x.fst.r.m.val n x_1) fun (x_3 : Int) => V.need (I (2, XDr.mk x.fst.x x.fst.p x.fst.ls x.fst.c false (XRm.mk (Int.ofNat 3) x.fst.r.n x.fst.r.i x.fst.r.c x_3 x.fst.r.y x.fst.r.z (IntKind.i64.wrap ((↑x.fst.r.s : Int) + Int.ofNat 1)).toNat x_2 x.fst.r.l) (Int.ofNat 0) (Int.ofNat 0) (Int.ofNat 0) (Int.ofNat 0) (Int.ofNat 0) (Int.ofNat 0), x.snd))
    (V.need (M - (IntKind.i64.wrap ((↑x.fst.r.s : Int) + Int.ofNat 1)).toNat < M - x.fst.r.s)
    (V.need (IntKind.i64.wrap ((↑x.fst.r.s : Int) + Int.ofNat 1) = (↑(IntKind.i64.wrap ((↑x.fst.r.s : Int) + Int.ofNat 1)).toNat : Int))
    (nN [qE w, qE x.fst.x, qE x.fst.p, qE x.fst.ls, qE x.fst.c, qE n, qE cap, qE x_2.lk, qE x_2.lc, qE x_2.lo, qE x_2.ln, qE x_2.ct, qE cap, qL n, qF n x_2.g, qE y.W, qE y.L, qE y.T, qE y.D, qE y.H, qE z.B, qE z.A, qE z.Q, qE z.nP, qE z.rc, qE z.nU, qE z.cu, qE y.W, qE y.L, qE y.C, qE y.T, qE y.D, qE y.H, qE y.sl, qE y.ep, qE y.bm, qE y.qu, qE y.tb, qE x.fst.r.l.n, qE x.snd, qE x.snd, qL x.fst.r.l.n, qF x.fst.r.l.n x.fst.r.l.v.k, qF x.fst.r.l.n x.fst.r.l.v.w, qF x.fst.r.l.n x.fst.r.l.v.t, qF x.fst.r.l.n x.fst.r.l.v.o, qF x.fst.r.l.n x.fst.r.l.v.l, qE w, (1, .eqI 3 3), qE x.fst.r.n, qE x.fst.r.i, qE x.fst.r.c, qE x_3, qE x.fst.r.y, qE x.fst.r.z, (1, .le 0 0), (1, .pf (∀ (i : Nat), i < 0 → 0 ≤ 0) (by intros; exact Nat.le_refl _))] V.ok)))))))))
    (V.br (x.fst.r.ln == Int.ofNat 3)
    (nN [(14, .lt2 0 1 0 1), qE (IntKind.i64.wrap (x.fst.r.n - Int.ofNat 1)), qE y.H, (1, .eqI 4 4), (1, .eqI 1 1)]
    (V.need (okAtT (IntKind.i64.wrap (x.fst.r.n - Int.ofNat 1)) y.H (Int.ofNat 4) (Int.ofNat 1))
    (nN [qX (atM (IntKind.i64.wrap (x.fst.r.n - Int.ofNat 1)) y.H (Int.ofNat 4) (Int.ofNat 1))]
    (V.any Int (fun (r : Int) => r = atM (IntKind.i64.wrap (x.fst.r.n - Int.ofNat 1)) y.H (Int.ofNat 4) (Int.ofNat 1)) fun (x_1 : Int) => nN [qE x_1, qE n, qE cap, qE x.fst.r.m.lk, qE x.fst.r.m.lc, qE x.fst.r.m.lo, qE x.fst.r.m.ln, qE x.fst.r.m.ct, qE cap, qL n, qF n x.fst.r.m.g, qX (x.fst.r.m.acc n (Int.ofNat 1) x_1 (x.fst.r.m.val n x_1))]
    (V.any Mm (fun (m' : Mm) => m' = x.fst.r.m.acc n (Int.ofNat 1) x_1 (x.fst.r.m.val n x_1)) fun (x_2 : Mm) => nN [qX (x.fst.r.m.val n x_1)]
    (V.any Int (fun (v : Int) => v = x.fst.r.m.val n x_1) fun (x_3 : Int) => nN [(2, .lt2 0 1 0 1)]
    (V.need (I (2, XDr.mk x.fst.x x.fst.p x.fst.ls x.fst.c false (XRm.mk (Int.ofNat 4) x.fst.r.n x.fst.r.i x.fst.r.c x.fst.r.x x_3 x.fst.r.z (IntKind.i64.wrap ((↑x.fst.r.s : Int) + Int.ofNat 1)).toNat x_2 x.fst.r.l) (Int.ofNat 0) (Int.ofNat 0) (Int.ofNat 0) (Int.ofNat 0) (Int.ofNat 0) (Int.ofNat 0), x.snd))
    (V.need (M - (IntKind.i64.wrap ((↑x.fst.r.s : Int) + Int.ofNat 1)).toNat < M - x.fst.r.s)
    (V.need (IntKind.i64.wrap ((↑x.fst.r.s : Int) + Int.ofNat 1) = (↑(IntKind.i64.wrap ((↑x.fst.r.s : Int) + Int.ofNat 1)).toNat : Int))
    (nN [qE w, qE x.fst.x, qE x.fst.p, qE x.fst.ls, qE x.fst.c, qE n, qE cap, qE x_2.lk, qE x_2.lc, qE x_2.lo, qE x_2.ln, qE x_2.ct, qE cap, qL n, qF n x_2.g, qE y.W, qE y.L, qE y.T, qE y.D, qE y.H, qE z.B, qE z.A, qE z.Q, qE z.nP, qE z.rc, qE z.nU, qE z.cu, qE y.W, qE y.L, qE y.C, qE y.T, qE y.D, qE y.H, qE y.sl, qE y.ep, qE y.bm, qE y.qu, qE y.tb, qE x.fst.r.l.n, qE x.snd, qE x.snd, qL x.fst.r.l.n, qF x.fst.r.l.n x.fst.r.l.v.k, qF x.fst.r.l.n x.fst.r.l.v.w, qF x.fst.r.l.n x.fst.r.l.v.t, qF x.fst.r.l.n x.fst.r.l.v.o, qF x.fst.r.l.n x.fst.r.l.v.l, qE w, (1, .eqI 4 4), qE x.fst.r.n, qE x.fst.r.i, qE x.fst.r.c, qE x.fst.r.x, qE x_3, qE x.fst.r.z, (1, .le 0 0), (1, .pf (∀ (i : Nat), i < 0 → 0 ≤ 0) (by intros; exact Nat.le_refl _))] V.ok))))))))))
    (nN [(14, .lt2 0 1 0 1), (1, .eqI 2 2), qE (IntKind.u64.wrap (IntKind.i64.wrap (x.fst.r.n - Int.ofNat 1))), qE n, qE cap, qE x.fst.r.m.lk, qE x.fst.r.m.lc, qE x.fst.r.m.lo, qE x.fst.r.m.ln, qE x.fst.r.m.ct, qE cap, qL n, qF n x.fst.r.m.g, qX (x.fst.r.m.acc n (Int.ofNat 2) (Int.ofNat 2) (IntKind.u64.wrap (IntKind.i64.wrap (x.fst.r.n - Int.ofNat 1))))]
    (V.any Mm (fun (m' : Mm) => m' = x.fst.r.m.acc n (Int.ofNat 2) (Int.ofNat 2) (IntKind.u64.wrap (IntKind.i64.wrap (x.fst.r.n - Int.ofNat 1)))) fun (x_1 : Mm) => nN [(6, .lt2 0 1 0 1), (1, .leI 0 40), (1, .leI 0 16), (13, .lt2 0 1 0 1)]
    (V.need (x.fst.r.l.n ≤ x.fst.r.l.n ∧ x.snd = x.snd)
    (V.need (x.fst.r.l.n + 1 ≤ 9223372036854775807 ∧ (x.fst.r.l.n + 1) * 40 ≤ 140737488355328)
    (V.any Nat (fun (x_2 : Nat) => x.fst.r.l.n + 1 ≤ x_2) fun (x_2 : Nat) => nN [(2, .lt2 0 1 0 1)]
    (V.br (x.fst.r.n == Int.ofNat 1)
    (nN [(5, .lt2 0 1 0 1), (1, .leI 0 40), (1, .leI 0 16), (6, .lt2 0 1 0 1)]
    (V.need (I (3, XDr.mk (IntKind.i64.wrap (bits BinOp.and IntKind.u64 x.fst.r.x (Int.ofNat 65535))) x.fst.p x.fst.ls x.fst.c false (noRm (Int.ofNat 0) (IntKind.i64.wrap ((↑x.fst.r.s : Int) + Int.ofNat 1)).toNat x_1 (El.mk (x.fst.r.l.n + 1) (Evs.mk (fun (i : Nat) => if 0 = 0 ∧ i = x.fst.r.l.n then Int.ofNat 13 else x.fst.r.l.v.k i) (fun (i : Nat) => if 0 = 0 ∧ i = x.fst.r.l.n then w else x.fst.r.l.v.w i) (fun (i : Nat) => if 0 = 0 ∧ i = x.fst.r.l.n then IntKind.i64.wrap (bits BinOp.and IntKind.u64 x.fst.r.x (Int.ofNat 65535)) else x.fst.r.l.v.t i) (fun (i : Nat) => if 0 = 0 ∧ i = x.fst.r.l.n then Int.ofNat 0 else x.fst.r.l.v.o i) fun (i : Nat) => if 0 = 0 ∧ i = x.fst.r.l.n then Int.ofNat 0 else x.fst.r.l.v.l i))) (Int.ofNat 0) (Int.ofNat 0) (Int.ofNat 0) (Int.ofNat 0) (Int.ofNat 0) (Int.ofNat 0), x_2))
    (V.need (M - (IntKind.i64.wrap ((↑x.fst.r.s : Int) + Int.ofNat 1)).toNat < M - x.fst.r.s)
    (V.need (IntKind.i64.wrap ((↑x.fst.r.s : Int) + Int.ofNat 1) = (↑(IntKind.i64.wrap ((↑x.fst.r.s : Int) + Int.ofNat 1)).toNat : Int))
    (nN [qE w, qE (IntKind.i64.wrap (bits BinOp.and IntKind.u64 x.fst.r.x (Int.ofNat 65535))), qE x.fst.p, qE x.fst.ls, qE x.fst.c, qE n, qE cap, qE x_1.lk, qE x_1.lc, qE x_1.lo, qE x_1.ln, qE x_1.ct, qE cap, qL n, qF n x_1.g, qE y.W, qE y.L, qE y.T, qE y.D, qE y.H, qE z.B, qE z.A, qE z.Q, qE z.nP, qE z.rc, qE z.nU, qE z.cu, qE y.W, qE y.L, qE y.C, qE y.T, qE y.D, qE y.H, qE y.sl, qE y.ep, qE y.bm, qE y.qu, qE y.tb, qE (x.fst.r.l.n + 1), qE x_2, qE x_2]
    (V.need (x.fst.r.l.n + 1 ≤ x.fst.r.l.n + 1)
    (V.need (∀ (e : Nat), e < x.fst.r.l.n + 1 → (if 0 = 0 ∧ e = x.fst.r.l.n then Int.ofNat 13 else x.fst.r.l.v.k e) = if 0 = 0 ∧ e = x.fst.r.l.n then Int.ofNat 13 else x.fst.r.l.v.k e)
    (V.need (∀ (e : Nat), e < x.fst.r.l.n + 1 → (if 0 = 0 ∧ e = x.fst.r.l.n then w else x.fst.r.l.v.w e) = if 0 = 0 ∧ e = x.fst.r.l.n then w else x.fst.r.l.v.w e)
    (V.need (∀ (e : Nat), e < x.fst.r.l.n + 1 → (if 0 = 0 ∧ e = x.fst.r.l.n then IntKind.i64.wrap (bits BinOp.and IntKind.u64 x.fst.r.x (Int.ofNat 65535)) else x.fst.r.l.v.t e) = if 0 = 0 ∧ e = x.fst.r.l.n then IntKind.i64.wrap (bits BinOp.and IntKind.u64 x.fst.r.x (Int.ofNat 65535)) else x.fst.r.l.v.t e)
    (V.need (∀ (e : Nat), e < x.fst.r.l.n + 1 → (if 0 = 0 ∧ e = x.fst.r.l.n then Int.ofNat 0 else x.fst.r.l.v.o e) = if 0 = 0 ∧ e = x.fst.r.l.n then Int.ofNat 0 else x.fst.r.l.v.o e)
    (V.need (∀ (e : Nat), e < x.fst.r.l.n + 1 → (if 0 = 0 ∧ e = x.fst.r.l.n then Int.ofNat 0 else x.fst.r.l.v.l e) = if 0 = 0 ∧ e = x.fst.r.l.n then Int.ofNat 0 else x.fst.r.l.v.l e)
    (nN [(1, .le 0 0), (1, .pf (∀ (i : Nat), i < 0 → 0 ≤ 0) (by intros; exact Nat.le_refl _))] V.ok))))))))))))
    (nN [(6, .lt2 0 1 0 1)]
    (V.br (decide (IntKind.i64.wrap (IntKind.i64.wrap (Int.ofNat 2 * x.fst.r.i) + Int.ofNat 1) < IntKind.i64.wrap (x.fst.r.n - Int.ofNat 1)))
    (V.need (I (2, XDr.mk x.fst.x x.fst.p x.fst.ls x.fst.c false (XRm.mk (Int.ofNat 5) x.fst.r.n x.fst.r.i x.fst.r.c x.fst.r.x x.fst.r.y x.fst.r.z (IntKind.i64.wrap ((↑x.fst.r.s : Int) + Int.ofNat 1)).toNat x_1 (El.mk (x.fst.r.l.n + 1) (Evs.mk (fun (i : Nat) => if 0 = 0 ∧ i = x.fst.r.l.n then Int.ofNat 13 else x.fst.r.l.v.k i) (fun (i : Nat) => if 0 = 0 ∧ i = x.fst.r.l.n then w else x.fst.r.l.v.w i) (fun (i : Nat) => if 0 = 0 ∧ i = x.fst.r.l.n then IntKind.i64.wrap (bits BinOp.and IntKind.u64 x.fst.r.x (Int.ofNat 65535)) else x.fst.r.l.v.t i) (fun (i : Nat) => if 0 = 0 ∧ i = x.fst.r.l.n then Int.ofNat 0 else x.fst.r.l.v.o i) fun (i : Nat) => if 0 = 0 ∧ i = x.fst.r.l.n then Int.ofNat 0 else x.fst.r.l.v.l i))) (Int.ofNat 0) (Int.ofNat 0) (Int.ofNat 0) (Int.ofNat 0) (Int.ofNat 0) (Int.ofNat 0), x_2))
    (V.need (M - (IntKind.i64.wrap ((↑x.fst.r.s : Int) + Int.ofNat 1)).toNat < M - x.fst.r.s)
    (V.need (IntKind.i64.wrap ((↑x.fst.r.s : Int) + Int.ofNat 1) = (↑(IntKind.i64.wrap ((↑x.fst.r.s : Int) + Int.ofNat 1)).toNat : Int))
    (nN [qE w, qE x.fst.x, qE x.fst.p, qE x.fst.ls, qE x.fst.c, qE n, qE cap, qE x_1.lk, qE x_1.lc, qE x_1.lo, qE x_1.ln, qE x_1.ct, qE cap, qL n, qF n x_1.g, qE y.W, qE y.L, qE y.T, qE y.D, qE y.H, qE z.B, qE z.A, qE z.Q, qE z.nP, qE z.rc, qE z.nU, qE z.cu, qE y.W, qE y.L, qE y.C, qE y.T, qE y.D, qE y.H, qE y.sl, qE y.ep, qE y.bm, qE y.qu, qE y.tb, qE (x.fst.r.l.n + 1), qE x_2, qE x_2]
    (V.need (x.fst.r.l.n + 1 ≤ x.fst.r.l.n + 1)
    (V.need (∀ (e : Nat), e < x.fst.r.l.n + 1 → (if 0 = 0 ∧ e = x.fst.r.l.n then Int.ofNat 13 else x.fst.r.l.v.k e) = if 0 = 0 ∧ e = x.fst.r.l.n then Int.ofNat 13 else x.fst.r.l.v.k e)
    (V.need (∀ (e : Nat), e < x.fst.r.l.n + 1 → (if 0 = 0 ∧ e = x.fst.r.l.n then w else x.fst.r.l.v.w e) = if 0 = 0 ∧ e = x.fst.r.l.n then w else x.fst.r.l.v.w e)
    (V.need (∀ (e : Nat), e < x.fst.r.l.n + 1 → (if 0 = 0 ∧ e = x.fst.r.l.n then IntKind.i64.wrap (bits BinOp.and IntKind.u64 x.fst.r.x (Int.ofNat 65535)) else x.fst.r.l.v.t e) = if 0 = 0 ∧ e = x.fst.r.l.n then IntKind.i64.wrap (bits BinOp.and IntKind.u64 x.fst.r.x (Int.ofNat 65535)) else x.fst.r.l.v.t e)
    (V.need (∀ (e : Nat), e < x.fst.r.l.n + 1 → (if 0 = 0 ∧ e = x.fst.r.l.n then Int.ofNat 0 else x.fst.r.l.v.o e) = if 0 = 0 ∧ e = x.fst.r.l.n then Int.ofNat 0 else x.fst.r.l.v.o e)
    (V.need (∀ (e : Nat), e < x.fst.r.l.n + 1 → (if 0 = 0 ∧ e = x.fst.r.l.n then Int.ofNat 0 else x.fst.r.l.v.l e) = if 0 = 0 ∧ e = x.fst.r.l.n then Int.ofNat 0 else x.fst.r.l.v.l e)
    (nN [qE w, (1, .eqI 5 5), qE x.fst.r.n, qE x.fst.r.i, qE x.fst.r.c, qE x.fst.r.x, qE x.fst.r.y, qE x.fst.r.z, (1, .le 0 0), (1, .pf (∀ (i : Nat), i < 0 → 0 ≤ 0) (by intros; exact Nat.le_refl _))] V.ok)))))))))))
    (V.need (I (2, XDr.mk x.fst.x x.fst.p x.fst.ls x.fst.c false (XRm.mk (Int.ofNat 8) x.fst.r.n x.fst.r.i x.fst.r.c x.fst.r.x x.fst.r.y x.fst.r.z (IntKind.i64.wrap ((↑x.fst.r.s : Int) + Int.ofNat 1)).toNat x_1 (El.mk (x.fst.r.l.n + 1) (Evs.mk (fun (i : Nat) => if 0 = 0 ∧ i = x.fst.r.l.n then Int.ofNat 13 else x.fst.r.l.v.k i) (fun (i : Nat) => if 0 = 0 ∧ i = x.fst.r.l.n then w else x.fst.r.l.v.w i) (fun (i : Nat) => if 0 = 0 ∧ i = x.fst.r.l.n then IntKind.i64.wrap (bits BinOp.and IntKind.u64 x.fst.r.x (Int.ofNat 65535)) else x.fst.r.l.v.t i) (fun (i : Nat) => if 0 = 0 ∧ i = x.fst.r.l.n then Int.ofNat 0 else x.fst.r.l.v.o i) fun (i : Nat) => if 0 = 0 ∧ i = x.fst.r.l.n then Int.ofNat 0 else x.fst.r.l.v.l i))) (Int.ofNat 0) (Int.ofNat 0) (Int.ofNat 0) (Int.ofNat 0) (Int.ofNat 0) (Int.ofNat 0), x_2))
    (V.need (M - (IntKind.i64.wrap ((↑x.fst.r.s : Int) + Int.ofNat 1)).toNat < M - x.fst.r.s)
    (V.need (IntKind.i64.wrap ((↑x.fst.r.s : Int) + Int.ofNat 1) = (↑(IntKind.i64.wrap ((↑x.fst.r.s : Int) + Int.ofNat 1)).toNat : Int))
    (nN [qE w, qE x.fst.x, qE x.fst.p, qE x.fst.ls, qE x.fst.c, qE n, qE cap, qE x_1.lk, qE x_1.lc, qE x_1.lo, qE x_1.ln, qE x_1.ct, qE cap, qL n, qF n x_1.g, qE y.W, qE y.L, qE y.T, qE y.D, qE y.H, qE z.B, qE z.A, qE z.Q, qE z.nP, qE z.rc, qE z.nU, qE z.cu, qE y.W, qE y.L, qE y.C, qE y.T, qE y.D, qE y.H, qE y.sl, qE y.ep, qE y.bm, qE y.qu, qE y.tb, qE (x.fst.r.l.n + 1), qE x_2, qE x_2]
    (V.need (x.fst.r.l.n + 1 ≤ x.fst.r.l.n + 1)
    (V.need (∀ (e : Nat), e < x.fst.r.l.n + 1 → (if 0 = 0 ∧ e = x.fst.r.l.n then Int.ofNat 13 else x.fst.r.l.v.k e) = if 0 = 0 ∧ e = x.fst.r.l.n then Int.ofNat 13 else x.fst.r.l.v.k e)
    (V.need (∀ (e : Nat), e < x.fst.r.l.n + 1 → (if 0 = 0 ∧ e = x.fst.r.l.n then w else x.fst.r.l.v.w e) = if 0 = 0 ∧ e = x.fst.r.l.n then w else x.fst.r.l.v.w e)
    (V.need (∀ (e : Nat), e < x.fst.r.l.n + 1 → (if 0 = 0 ∧ e = x.fst.r.l.n then IntKind.i64.wrap (bits BinOp.and IntKind.u64 x.fst.r.x (Int.ofNat 65535)) else x.fst.r.l.v.t e) = if 0 = 0 ∧ e = x.fst.r.l.n then IntKind.i64.wrap (bits BinOp.and IntKind.u64 x.fst.r.x (Int.ofNat 65535)) else x.fst.r.l.v.t e)
    (V.need (∀ (e : Nat), e < x.fst.r.l.n + 1 → (if 0 = 0 ∧ e = x.fst.r.l.n then Int.ofNat 0 else x.fst.r.l.v.o e) = if 0 = 0 ∧ e = x.fst.r.l.n then Int.ofNat 0 else x.fst.r.l.v.o e)
    (V.need (∀ (e : Nat), e < x.fst.r.l.n + 1 → (if 0 = 0 ∧ e = x.fst.r.l.n then Int.ofNat 0 else x.fst.r.l.v.l e) = if 0 = 0 ∧ e = x.fst.r.l.n then Int.ofNat 0 else x.fst.r.l.v.l e)
    (nN [qE w, (1, .eqI 8 8), qE x.fst.r.n, qE x.fst.r.i, qE x.fst.r.c, qE x.fst.r.x, qE x.fst.r.y, qE x.fst.r.z, (1, .le 0 0), (1, .pf (∀ (i : Nat), i < 0 → 0 ≤ 0) (by intros; exact Nat.le_refl _))] V.ok))))))))))))))))))))))))))))
    (V.need (φ (Re.mk (Int.negSucc 0) (Int.ofNat 0) (↑x.fst.r.s : Int) x.fst.r.m x.fst.r.l, x.snd))
    (nN [qE (Int.negSucc 0), (1, .eqI 0 0), qE ((↑x.fst.r.s : Int)), qE y.W, qE y.L, qE y.T, qE y.D, qE y.H, qE z.B, qE z.A, qE z.Q, qE z.nP, qE z.rc, qE z.nU, qE z.cu, qE y.W, qE y.L, qE y.C, qE y.T, qE y.D, qE y.H, qE y.sl, qE y.ep, qE y.bm, qE y.qu, qE y.tb, qE x.fst.r.l.n, qE x.snd, qE n, qE cap, qE x.fst.r.m.lk, qE x.fst.r.m.lc, qE x.fst.r.m.lo, qE x.fst.r.m.ln, qE x.fst.r.m.ct, qE cap, qL n, qF n x.fst.r.m.g, qE x.snd, qL x.fst.r.l.n, qF x.fst.r.l.n x.fst.r.l.v.k, qF x.fst.r.l.n x.fst.r.l.v.w, qF x.fst.r.l.n x.fst.r.l.v.t, qF x.fst.r.l.n x.fst.r.l.v.o, qF x.fst.r.l.n x.fst.r.l.v.l] V.ok)))
    (V.any Bool (fun (x : Bool) => True) fun (b : Bool) => V.br b
    (V.any (XDr × Nat) (fun (x : XDr × Nat) => I (3, x)) fun (x : XDr × Nat) => V.br (decide ((↑x.fst.r.s : Int) < (↑M : Int)))
    (nN [(19, .lt2 0 1 0 1), qE x.fst.x, qE y.T, qE (IntKind.i64.wrap (y.tb + Int.ofNat 1)), (1, .eqI 5 5)]
    (V.need (okAtT x.fst.x y.T (IntKind.i64.wrap (y.tb + Int.ofNat 1)) (Int.ofNat 5))
    (nN [qX (atM x.fst.x y.T (IntKind.i64.wrap (y.tb + Int.ofNat 1)) (Int.ofNat 5))]
    (V.any Int (fun (r : Int) => r = atM x.fst.x y.T (IntKind.i64.wrap (y.tb + Int.ofNat 1)) (Int.ofNat 5)) fun (x_1 : Int) => nN [qE x_1, qE n, qE cap, qE x.fst.r.m.lk, qE x.fst.r.m.lc, qE x.fst.r.m.lo, qE x.fst.r.m.ln, qE x.fst.r.m.ct, qE cap, qL n, qF n x.fst.r.m.g, qX (x.fst.r.m.acc n (Int.ofNat 1) x_1 (x.fst.r.m.val n x_1))]
    (V.any Mm (fun (m' : Mm) => m' = x.fst.r.m.acc n (Int.ofNat 1) x_1 (x.fst.r.m.val n x_1)) fun (x_2 : Mm) => nN [qX (x.fst.r.m.val n x_1)]
    (V.any Int (fun (v : Int) => v = x.fst.r.m.val n x_1) fun (x_3 : Int) => nN [(11, .lt2 0 1 0 1)]
    (V.need (I (4, XDr.mk x.fst.x (IntKind.i64.wrap x_3) x.fst.ls x.fst.c false (noRm (Int.ofNat 0) (IntKind.i64.wrap ((↑x.fst.r.s : Int) + Int.ofNat 1)).toNat x_2 x.fst.r.l) (Int.ofNat 0) (Int.ofNat 0) (Int.ofNat 0) (Int.ofNat 0) (Int.ofNat 0) (Int.ofNat 0), x.snd))
    (V.need (M - (IntKind.i64.wrap ((↑x.fst.r.s : Int) + Int.ofNat 1)).toNat < M - x.fst.r.s)
    (V.need (IntKind.i64.wrap ((↑x.fst.r.s : Int) + Int.ofNat 1) = (↑(IntKind.i64.wrap ((↑x.fst.r.s : Int) + Int.ofNat 1)).toNat : Int))
    (nN [qE w, qE x.fst.x, qE (IntKind.i64.wrap x_3), qE x.fst.ls, qE x.fst.c, qE n, qE cap, qE x_2.lk, qE x_2.lc, qE x_2.lo, qE x_2.ln, qE x_2.ct, qE cap, qL n, qF n x_2.g, qE y.W, qE y.L, qE y.T, qE y.D, qE y.H, qE z.B, qE z.A, qE z.Q, qE z.nP, qE z.rc, qE z.nU, qE z.cu, qE y.W, qE y.L, qE y.C, qE y.T, qE y.D, qE y.H, qE y.sl, qE y.ep, qE y.bm, qE y.qu, qE y.tb, qE x.fst.r.l.n, qE x.snd, qE x.snd, qL x.fst.r.l.n, qF x.fst.r.l.n x.fst.r.l.v.k, qF x.fst.r.l.n x.fst.r.l.v.w, qF x.fst.r.l.n x.fst.r.l.v.t, qF x.fst.r.l.n x.fst.r.l.v.o, qF x.fst.r.l.n x.fst.r.l.v.l, qE w, qE (IntKind.i64.wrap x_3), qE x.fst.x, (1, .le 0 0), (1, .pf (∀ (i : Nat), i < 0 → 0 ≤ 0) (by intros; exact Nat.le_refl _))] V.ok))))))))))
    (V.need (φ (Re.mk (Int.negSucc 0) (Int.ofNat 0) (↑x.fst.r.s : Int) x.fst.r.m x.fst.r.l, x.snd))
    (nN [qE (Int.negSucc 0), (1, .eqI 0 0), qE ((↑x.fst.r.s : Int)), qE y.W, qE y.L, qE y.T, qE y.D, qE y.H, qE z.B, qE z.A, qE z.Q, qE z.nP, qE z.rc, qE z.nU, qE z.cu, qE y.W, qE y.L, qE y.C, qE y.T, qE y.D, qE y.H, qE y.sl, qE y.ep, qE y.bm, qE y.qu, qE y.tb, qE x.fst.r.l.n, qE x.snd, qE n, qE cap, qE x.fst.r.m.lk, qE x.fst.r.m.lc, qE x.fst.r.m.lo, qE x.fst.r.m.ln, qE x.fst.r.m.ct, qE cap, qL n, qF n x.fst.r.m.g, qE x.snd, qL x.fst.r.l.n, qF x.fst.r.l.n x.fst.r.l.v.k, qF x.fst.r.l.n x.fst.r.l.v.w, qF x.fst.r.l.n x.fst.r.l.v.t, qF x.fst.r.l.n x.fst.r.l.v.o, qF x.fst.r.l.n x.fst.r.l.v.l] V.ok)))
    (V.any Bool (fun (x : Bool) => True) fun (b : Bool) => V.br b
    (V.any (XDr × Nat) (fun (x : XDr × Nat) => I (4, x)) fun (x : XDr × Nat) => V.br (decide ((↑x.fst.r.s : Int) < (↑M : Int)))
    (nN [(19, .lt2 0 1 0 1), qE y.W, qE y.L, qE y.C, qE y.T, qE y.D, qE y.H, qE y.sl, qE y.ep, qE y.bm, qE y.qu, qE y.tb, qE w, qE x.fst.p]
    (V.need (Ly.mk y.W y.L y.C y.T y.D y.H y.sl y.ep y.bm y.qu y.tb).small
    (nN [qX (quM (Ly.mk y.W y.L y.C y.T y.D y.H y.sl y.ep y.bm y.qu y.tb) w x.fst.p)]
    (V.any Qu (fun (q : Qu) => q = quM (Ly.mk y.W y.L y.C y.T y.D y.H y.sl y.ep y.bm y.qu y.tb) w x.fst.p) fun (x_1 : Qu) => nN [(12, .lt2 0 1 0 1), qE x_1.b, qE n, qE cap, qE x.fst.r.m.lk, qE x.fst.r.m.lc, qE x.fst.r.m.lo, qE x.fst.r.m.ln, qE x.fst.r.m.ct, qE cap, qL n, qF n x.fst.r.m.g, qX (x.fst.r.m.acc n (Int.ofNat 1) x_1.b (x.fst.r.m.val n x_1.b))]
    (V.any Mm (fun (m' : Mm) => m' = x.fst.r.m.acc n (Int.ofNat 1) x_1.b (x.fst.r.m.val n x_1.b)) fun (x_2 : Mm) => nN [qX (x.fst.r.m.val n x_1.b)]
    (V.any Int (fun (v : Int) => v = x.fst.r.m.val n x_1.b) fun (x_3 : Int) => nN [(2, .lt2 0 1 0 1)]
    (V.need (I (5, XDr.mk x.fst.x x.fst.p x.fst.ls x.fst.c false (noRm (Int.ofNat 0) (IntKind.i64.wrap ((↑x.fst.r.s : Int) + Int.ofNat 1)).toNat x_2 x.fst.r.l) x_1.t x_1.b x_1.r x_1.c (Int.ofNat 2) x_3, x.snd))
    (V.need (M - (IntKind.i64.wrap ((↑x.fst.r.s : Int) + Int.ofNat 1)).toNat < M - x.fst.r.s)
    (V.need (IntKind.i64.wrap ((↑x.fst.r.s : Int) + Int.ofNat 1) = (↑(IntKind.i64.wrap ((↑x.fst.r.s : Int) + Int.ofNat 1)).toNat : Int))
    (nN [qE w, qE x.fst.x, qE x.fst.p, qE x.fst.ls, qE x.fst.c, qE n, qE cap, qE x_2.lk, qE x_2.lc, qE x_2.lo, qE x_2.ln, qE x_2.ct, qE cap, qL n, qF n x_2.g, qE y.W, qE y.L, qE y.T, qE y.D, qE y.H, qE z.B, qE z.A, qE z.Q, qE z.nP, qE z.rc, qE z.nU, qE z.cu, qE y.W, qE y.L, qE y.C, qE y.T, qE y.D, qE y.H, qE y.sl, qE y.ep, qE y.bm, qE y.qu, qE y.tb, qE x.fst.r.l.n, qE x.snd, qE x.snd, qL x.fst.r.l.n, qF x.fst.r.l.n x.fst.r.l.v.k, qF x.fst.r.l.n x.fst.r.l.v.w, qF x.fst.r.l.n x.fst.r.l.v.t, qF x.fst.r.l.n x.fst.r.l.v.o, qF x.fst.r.l.n x.fst.r.l.v.l, qE w, qE x.fst.p, qE x.fst.x, qE x_1.t, qE x_1.b, qE x_1.r, qE x_1.c, qE x.fst.x, (1, .eqI 2 2), qE x_3] V.ok))))))))))
    (V.need (φ (Re.mk (Int.negSucc 0) (Int.ofNat 0) (↑x.fst.r.s : Int) x.fst.r.m x.fst.r.l, x.snd))
    (nN [qE (Int.negSucc 0), (1, .eqI 0 0), qE ((↑x.fst.r.s : Int)), qE y.W, qE y.L, qE y.T, qE y.D, qE y.H, qE z.B, qE z.A, qE z.Q, qE z.nP, qE z.rc, qE z.nU, qE z.cu, qE y.W, qE y.L, qE y.C, qE y.T, qE y.D, qE y.H, qE y.sl, qE y.ep, qE y.bm, qE y.qu, qE y.tb, qE x.fst.r.l.n, qE x.snd, qE n, qE cap, qE x.fst.r.m.lk, qE x.fst.r.m.lc, qE x.fst.r.m.lo, qE x.fst.r.m.ln, qE x.fst.r.m.ct, qE cap, qL n, qF n x.fst.r.m.g, qE x.snd, qL x.fst.r.l.n, qF x.fst.r.l.n x.fst.r.l.v.k, qF x.fst.r.l.n x.fst.r.l.v.w, qF x.fst.r.l.n x.fst.r.l.v.t, qF x.fst.r.l.n x.fst.r.l.v.o, qF x.fst.r.l.n x.fst.r.l.v.l] V.ok)))
    (V.any Bool (fun (x : Bool) => True) fun (b : Bool) => V.br b
    (V.any (XDr × Nat) (fun (x : XDr × Nat) => I (5, x)) fun (x : XDr × Nat) => V.br (decide ((↑x.fst.r.s : Int) < (↑M : Int)))
    (V.br (x.fst.ln == Int.ofNat 1)
    (nN [(7, .lt2 0 1 0 1), qE x.fst.qb, qE n, qE cap, qE x.fst.r.m.lk, qE x.fst.r.m.lc, qE x.fst.r.m.lo, qE x.fst.r.m.ln, qE x.fst.r.m.ct, qE cap, qL n, qF n x.fst.r.m.g, qX (x.fst.r.m.acc n (Int.ofNat 1) x.fst.qb (x.fst.r.m.val n x.fst.qb))]
    (V.any Mm (fun (m' : Mm) => m' = x.fst.r.m.acc n (Int.ofNat 1) x.fst.qb (x.fst.r.m.val n x.fst.qb)) fun (x_1 : Mm) => nN [qX (x.fst.r.m.val n x.fst.qb)]
    (V.any Int (fun (v : Int) => v = x.fst.r.m.val n x.fst.qb) fun (x_2 : Int) => nN [(2, .lt2 0 1 0 1)]
    (V.need (I (5, XDr.mk x.fst.x x.fst.p x.fst.ls x.fst.c false (noRm (Int.ofNat 0) (IntKind.i64.wrap ((↑x.fst.r.s : Int) + Int.ofNat 1)).toNat x_1 x.fst.r.l) x.fst.qt x.fst.qb x.fst.qr x.fst.qc (IntKind.i64.wrap (x.fst.ln + Int.ofNat 1)) x_2, x.snd))
    (V.need (M - (IntKind.i64.wrap ((↑x.fst.r.s : Int) + Int.ofNat 1)).toNat < M - x.fst.r.s)
    (V.need (IntKind.i64.wrap ((↑x.fst.r.s : Int) + Int.ofNat 1) = (↑(IntKind.i64.wrap ((↑x.fst.r.s : Int) + Int.ofNat 1)).toNat : Int))
    (nN [qE w, qE x.fst.x, qE x.fst.p, qE x.fst.ls, qE x.fst.c, qE n, qE cap, qE x_1.lk, qE x_1.lc, qE x_1.lo, qE x_1.ln, qE x_1.ct, qE cap, qL n, qF n x_1.g, qE y.W, qE y.L, qE y.T, qE y.D, qE y.H, qE z.B, qE z.A, qE z.Q, qE z.nP, qE z.rc, qE z.nU, qE z.cu, qE y.W, qE y.L, qE y.C, qE y.T, qE y.D, qE y.H, qE y.sl, qE y.ep, qE y.bm, qE y.qu, qE y.tb, qE x.fst.r.l.n, qE x.snd, qE x.snd, qL x.fst.r.l.n, qF x.fst.r.l.n x.fst.r.l.v.k, qF x.fst.r.l.n x.fst.r.l.v.w, qF x.fst.r.l.n x.fst.r.l.v.t, qF x.fst.r.l.n x.fst.r.l.v.o, qF x.fst.r.l.n x.fst.r.l.v.l, qE w, qE x.fst.p, qE x.fst.x, qE x.fst.qt, qE x.fst.qb, qE x.fst.qr, qE x.fst.qc, qE x.fst.x, qE (IntKind.i64.wrap (x.fst.ln + Int.ofNat 1)), qE x_2] V.ok)))))))
    (V.br (x.fst.ln == Int.ofNat 2)
    (nN [(7, .lt2 0 1 0 1), qE x.fst.qt, qE n, qE cap, qE x.fst.r.m.lk, qE x.fst.r.m.lc, qE x.fst.r.m.lo, qE x.fst.r.m.ln, qE x.fst.r.m.ct, qE cap, qL n, qF n x.fst.r.m.g, qX (x.fst.r.m.acc n (Int.ofNat 1) x.fst.qt (x.fst.r.m.val n x.fst.qt))]
    (V.any Mm (fun (m' : Mm) => m' = x.fst.r.m.acc n (Int.ofNat 1) x.fst.qt (x.fst.r.m.val n x.fst.qt)) fun (x_1 : Mm) => nN [qX (x.fst.r.m.val n x.fst.qt)]
    (V.any Int (fun (v : Int) => v = x.fst.r.m.val n x.fst.qt) fun (x_2 : Int) => nN [(7, .lt2 0 1 0 1)]
    (V.br (decide (IntKind.i64.wrap (IntKind.u64.wrap (x.fst.b - x_2)) ≥ x.fst.qc))
    (nN [(12, .lt2 0 1 0 1)]
    (V.need (I (7, XDr.mk x.fst.x x.fst.p x.fst.ls x.fst.c true (noRm (Int.ofNat 0) (IntKind.i64.wrap ((↑x.fst.r.s : Int) + Int.ofNat 1)).toNat x_1 x.fst.r.l) (Int.ofNat 0) (Int.ofNat 0) (Int.ofNat 0) (Int.ofNat 0) (Int.ofNat 0) (Int.ofNat 0), x.snd))
    (V.need (M - (IntKind.i64.wrap ((↑x.fst.r.s : Int) + Int.ofNat 1)).toNat < M - x.fst.r.s)
    (V.need (IntKind.i64.wrap ((↑x.fst.r.s : Int) + Int.ofNat 1) = (↑(IntKind.i64.wrap ((↑x.fst.r.s : Int) + Int.ofNat 1)).toNat : Int))
    (nN [qE w, qE x.fst.x, qE true, qE x.fst.p, qE x.fst.ls, qE x.fst.c, qE n, qE cap, qE x_1.lk, qE x_1.lc, qE x_1.lo, qE x_1.ln, qE x_1.ct, qE cap, qL n, qF n x_1.g, qE y.W, qE y.L, qE y.T, qE y.D, qE y.H, qE z.B, qE z.A, qE z.Q, qE z.nP, qE z.rc, qE z.nU, qE z.cu, qE y.W, qE y.L, qE y.C, qE y.T, qE y.D, qE y.H, qE y.sl, qE y.ep, qE y.bm, qE y.qu, qE y.tb, qE x.fst.r.l.n, qE x.snd, qE x.snd, qL x.fst.r.l.n, qF x.fst.r.l.n x.fst.r.l.v.k, qF x.fst.r.l.n x.fst.r.l.v.w, qF x.fst.r.l.n x.fst.r.l.v.t, qF x.fst.r.l.n x.fst.r.l.v.o, qF x.fst.r.l.n x.fst.r.l.v.l] V.ok)))))
    (V.need (I (5, XDr.mk x.fst.x x.fst.p x.fst.ls x.fst.c false (noRm (Int.ofNat 0) (IntKind.i64.wrap ((↑x.fst.r.s : Int) + Int.ofNat 1)).toNat x_1 x.fst.r.l) x.fst.qt x.fst.qb x.fst.qr x.fst.qc (IntKind.i64.wrap (x.fst.ln + Int.ofNat 1)) x.fst.b, x.snd))
    (V.need (M - (IntKind.i64.wrap ((↑x.fst.r.s : Int) + Int.ofNat 1)).toNat < M - x.fst.r.s)
    (V.need (IntKind.i64.wrap ((↑x.fst.r.s : Int) + Int.ofNat 1) = (↑(IntKind.i64.wrap ((↑x.fst.r.s : Int) + Int.ofNat 1)).toNat : Int))
    (nN [qE w, qE x.fst.x, qE x.fst.p, qE x.fst.ls, qE x.fst.c, qE n, qE cap, qE x_1.lk, qE x_1.lc, qE x_1.lo, qE x_1.ln, qE x_1.ct, qE cap, qL n, qF n x_1.g, qE y.W, qE y.L, qE y.T, qE y.D, qE y.H, qE z.B, qE z.A, qE z.Q, qE z.nP, qE z.rc, qE z.nU, qE z.cu, qE y.W, qE y.L, qE y.C, qE y.T, qE y.D, qE y.H, qE y.sl, qE y.ep, qE y.bm, qE y.qu, qE y.tb, qE x.fst.r.l.n, qE x.snd, qE x.snd, qL x.fst.r.l.n, qF x.fst.r.l.n x.fst.r.l.v.k, qF x.fst.r.l.n x.fst.r.l.v.w, qF x.fst.r.l.n x.fst.r.l.v.t, qF x.fst.r.l.n x.fst.r.l.v.o, qF x.fst.r.l.n x.fst.r.l.v.l, qE w, qE x.fst.p, qE x.fst.x, qE x.fst.qt, qE x.fst.qb, qE x.fst.qr, qE x.fst.qc, qE x.fst.x, qE (IntKind.i64.wrap (x.fst.ln + Int.ofNat 1)), qE x.fst.b] V.ok))))))))
    (V.br (x.fst.ln == Int.ofNat 3)
    (nN [(12, .lt2 0 1 0 1), qE x.fst.qt, qE x.fst.qb, qE x.fst.qr, qE x.fst.qc, qE x.fst.b]
    (V.need (x.fst.qc ≤ Int.ofNat 9223372036854775807)
    (nN [qX (ringC x.fst.qr x.fst.qc x.fst.b)]
    (V.any Int (fun (r : Int) => r = ringC x.fst.qr x.fst.qc x.fst.b) fun (x_1 : Int) => nN [(3, .lt2 0 1 0 1), qE x_1, qE (IntKind.u64.wrap x.fst.x), qE n, qE cap, qE x.fst.r.m.lk, qE x.fst.r.m.lc, qE x.fst.r.m.lo, qE x.fst.r.m.ln, qE x.fst.r.m.ct, qE cap, qL n, qF n x.fst.r.m.g, qX (x.fst.r.m.acc n (Int.ofNat 2) x_1 (IntKind.u64.wrap x.fst.x))]
    (V.any Mm (fun (m' : Mm) => m' = x.fst.r.m.acc n (Int.ofNat 2) x_1 (IntKind.u64.wrap x.fst.x)) fun (x_2 : Mm) => V.need (I (5, XDr.mk x.fst.x x.fst.p x.fst.ls x.fst.c false (noRm (Int.ofNat 0) (IntKind.i64.wrap ((↑x.fst.r.s : Int) + Int.ofNat 1)).toNat x_2 x.fst.r.l) x.fst.qt x.fst.qb x.fst.qr x.fst.qc (IntKind.i64.wrap (x.fst.ln + Int.ofNat 1)) x.fst.b, x.snd))
    (V.need (M - (IntKind.i64.wrap ((↑x.fst.r.s : Int) + Int.ofNat 1)).toNat < M - x.fst.r.s)
    (V.need (IntKind.i64.wrap ((↑x.fst.r.s : Int) + Int.ofNat 1) = (↑(IntKind.i64.wrap ((↑x.fst.r.s : Int) + Int.ofNat 1)).toNat : Int))
    (nN [qE w, qE x.fst.x, qE x.fst.p, qE x.fst.ls, qE x.fst.c, qE n, qE cap, qE x_2.lk, qE x_2.lc, qE x_2.lo, qE x_2.ln, qE x_2.ct, qE cap, qL n, qF n x_2.g, qE y.W, qE y.L, qE y.T, qE y.D, qE y.H, qE z.B, qE z.A, qE z.Q, qE z.nP, qE z.rc, qE z.nU, qE z.cu, qE y.W, qE y.L, qE y.C, qE y.T, qE y.D, qE y.H, qE y.sl, qE y.ep, qE y.bm, qE y.qu, qE y.tb, qE x.fst.r.l.n, qE x.snd, qE x.snd, qL x.fst.r.l.n, qF x.fst.r.l.n x.fst.r.l.v.k, qF x.fst.r.l.n x.fst.r.l.v.w, qF x.fst.r.l.n x.fst.r.l.v.t, qF x.fst.r.l.n x.fst.r.l.v.o, qF x.fst.r.l.n x.fst.r.l.v.l, qE w, qE x.fst.p, qE x.fst.x, qE x.fst.qt, qE x.fst.qb, qE x.fst.qr, qE x.fst.qc, qE x.fst.x, qE (IntKind.i64.wrap (x.fst.ln + Int.ofNat 1)), qE x.fst.b] V.ok))))))))
    (nN [(10, .lt2 0 1 0 1), qE x.fst.qb, qE (IntKind.u64.wrap (x.fst.b + Int.ofNat 1)), qE n, qE cap, qE x.fst.r.m.lk, qE x.fst.r.m.lc, qE x.fst.r.m.lo, qE x.fst.r.m.ln, qE x.fst.r.m.ct, qE cap, qL n, qF n x.fst.r.m.g, qX (x.fst.r.m.acc n (Int.ofNat 2) x.fst.qb (IntKind.u64.wrap (x.fst.b + Int.ofNat 1)))]
    (V.any Mm (fun (m' : Mm) => m' = x.fst.r.m.acc n (Int.ofNat 2) x.fst.qb (IntKind.u64.wrap (x.fst.b + Int.ofNat 1))) fun (x_1 : Mm) => nN [(22, .lt2 0 1 0 1), qE w, qE y.W, qE y.bm, (1, .eqI 1 1)]
    (V.need (okAtT w y.W y.bm (Int.ofNat 1))
    (nN [qX (atM w y.W y.bm (Int.ofNat 1))]
    (V.any Int (fun (r : Int) => r = atM w y.W y.bm (Int.ofNat 1)) fun (x_2 : Int) => nN [(7, .lt2 0 1 0 1)]
    (V.need (I (6, XDr.mk x.fst.x x.fst.p x.fst.ls x.fst.c false (noRm (Int.ofNat 0) (IntKind.i64.wrap ((↑x.fst.r.s : Int) + Int.ofNat 1)).toNat x_1 x.fst.r.l) (Int.ofNat 0) (Int.ofNat 0) (Int.ofNat 0) (Int.ofNat 0) (Int.ofNat 0) (Int.ofNat 0), x.snd))
    (V.need (M - (IntKind.i64.wrap ((↑x.fst.r.s : Int) + Int.ofNat 1)).toNat < M - x.fst.r.s)
    (V.need (IntKind.i64.wrap ((↑x.fst.r.s : Int) + Int.ofNat 1) = (↑(IntKind.i64.wrap ((↑x.fst.r.s : Int) + Int.ofNat 1)).toNat : Int))
    (nN [qE w, qE x.fst.x, qE x.fst.p, qE x.fst.ls, qE x.fst.c, qE n, qE cap, qE x_1.lk, qE x_1.lc, qE x_1.lo, qE x_1.ln, qE x_1.ct, qE cap, qL n, qF n x_1.g, qE y.W, qE y.L, qE y.T, qE y.D, qE y.H, qE z.B, qE z.A, qE z.Q, qE z.nP, qE z.rc, qE z.nU, qE z.cu, qE y.W, qE y.L, qE y.C, qE y.T, qE y.D, qE y.H, qE y.sl, qE y.ep, qE y.bm, qE y.qu, qE y.tb, qE x.fst.r.l.n, qE x.snd, qE x.snd, qL x.fst.r.l.n, qF x.fst.r.l.n x.fst.r.l.v.k, qF x.fst.r.l.n x.fst.r.l.v.w, qF x.fst.r.l.n x.fst.r.l.v.t, qF x.fst.r.l.n x.fst.r.l.v.o, qF x.fst.r.l.n x.fst.r.l.v.l, qE w, qE x.fst.p, qE x.fst.x]
    (V.need (x_2 = atM w y.W y.bm (Int.ofNat 1))
    (nN [qE x.fst.p] V.ok))))))))))))))
    (V.need (φ (Re.mk (Int.negSucc 0) (Int.ofNat 0) (↑x.fst.r.s : Int) x.fst.r.m x.fst.r.l, x.snd))
    (nN [qE (Int.negSucc 0), (1, .eqI 0 0), qE ((↑x.fst.r.s : Int)), qE y.W, qE y.L, qE y.T, qE y.D, qE y.H, qE z.B, qE z.A, qE z.Q, qE z.nP, qE z.rc, qE z.nU, qE z.cu, qE y.W, qE y.L, qE y.C, qE y.T, qE y.D, qE y.H, qE y.sl, qE y.ep, qE y.bm, qE y.qu, qE y.tb, qE x.fst.r.l.n, qE x.snd, qE n, qE cap, qE x.fst.r.m.lk, qE x.fst.r.m.lc, qE x.fst.r.m.lo, qE x.fst.r.m.ln, qE x.fst.r.m.ct, qE cap, qL n, qF n x.fst.r.m.g, qE x.snd, qL x.fst.r.l.n, qF x.fst.r.l.n x.fst.r.l.v.k, qF x.fst.r.l.n x.fst.r.l.v.w, qF x.fst.r.l.n x.fst.r.l.v.t, qF x.fst.r.l.n x.fst.r.l.v.o, qF x.fst.r.l.n x.fst.r.l.v.l] V.ok)))
    (V.any Bool (fun (x : Bool) => True) fun (b : Bool) => V.br b
    (V.any (XDr × Nat) (fun (x : XDr × Nat) => I (6, x)) fun (x : XDr × Nat) => V.br (decide ((↑x.fst.r.s : Int) < (↑M : Int)))
    (nN [(9, .lt2 0 1 0 1), qE x.fst.p]
    (V.need True
    (nN [qX (bitM x.fst.p)]
    (V.any Int (fun (r : Int) => r = bitM x.fst.p) fun (x_1 : Int) => nN [qE (atM w y.W y.bm (Int.ofNat 1)), qE x_1, qE n, qE cap, qE x.fst.r.m.lk, qE x.fst.r.m.lc, qE x.fst.r.m.lo, qE x.fst.r.m.ln, qE x.fst.r.m.ct, qE cap, qL n, qF n x.fst.r.m.g, qX (x.fst.r.m.acc n (Int.ofNat 4) (atM w y.W y.bm (Int.ofNat 1)) (bits BinOp.or IntKind.u64 (x.fst.r.m.val n (atM w y.W y.bm (Int.ofNat 1))) x_1))]
    (V.any Mm (fun (m' : Mm) => m' = x.fst.r.m.acc n (Int.ofNat 4) (atM w y.W y.bm (Int.ofNat 1)) (bits BinOp.or IntKind.u64 (x.fst.r.m.val n (atM w y.W y.bm (Int.ofNat 1))) x_1)) fun (x_2 : Mm) => nN [qX (x.fst.r.m.val n (atM w y.W y.bm (Int.ofNat 1)))]
    (V.any Int (fun (v : Int) => v = x.fst.r.m.val n (atM w y.W y.bm (Int.ofNat 1))) fun (x_3 : Int) => nN [(19, .lt2 0 1 0 1)]
    (V.br (decide (IntKind.i64.wrap (x.fst.c + Int.ofNat 1) < z.B))
    (V.need (I (2, XDr.mk x.fst.x x.fst.p x.fst.p (IntKind.i64.wrap (x.fst.c + Int.ofNat 1)) false (XRm.mk (Int.ofNat 1) (Int.ofNat 0) (Int.ofNat 0) (Int.ofNat 0) (Int.ofNat 0) (Int.ofNat 0) (Int.ofNat 0) (IntKind.i64.wrap ((↑x.fst.r.s : Int) + Int.ofNat 1)).toNat x_2 x.fst.r.l) (Int.ofNat 0) (Int.ofNat 0) (Int.ofNat 0) (Int.ofNat 0) (Int.ofNat 0) (Int.ofNat 0), x.snd))
    (V.need (M - (IntKind.i64.wrap ((↑x.fst.r.s : Int) + Int.ofNat 1)).toNat < M - x.fst.r.s)
    (V.need (IntKind.i64.wrap ((↑x.fst.r.s : Int) + Int.ofNat 1) = (↑(IntKind.i64.wrap ((↑x.fst.r.s : Int) + Int.ofNat 1)).toNat : Int))
    (nN [qE w, qE x.fst.x, qE x.fst.p, qE x.fst.p, qE (IntKind.i64.wrap (x.fst.c + Int.ofNat 1)), qE n, qE cap, qE x_2.lk, qE x_2.lc, qE x_2.lo, qE x_2.ln, qE x_2.ct, qE cap, qL n, qF n x_2.g, qE y.W, qE y.L, qE y.T, qE y.D, qE y.H, qE z.B, qE z.A, qE z.Q, qE z.nP, qE z.rc, qE z.nU, qE z.cu, qE y.W, qE y.L, qE y.C, qE y.T, qE y.D, qE y.H, qE y.sl, qE y.ep, qE y.bm, qE y.qu, qE y.tb, qE x.fst.r.l.n, qE x.snd, qE x.snd, qL x.fst.r.l.n, qF x.fst.r.l.n x.fst.r.l.v.k, qF x.fst.r.l.n x.fst.r.l.v.w, qF x.fst.r.l.n x.fst.r.l.v.t, qF x.fst.r.l.n x.fst.r.l.v.o, qF x.fst.r.l.n x.fst.r.l.v.l, qE w, (1, .eqI 1 1), (6, .eqI 0 0)] V.ok))))
    (V.need (I (7, XDr.mk x.fst.x x.fst.p x.fst.p (IntKind.i64.wrap (x.fst.c + Int.ofNat 1)) false (noRm (Int.ofNat 0) (IntKind.i64.wrap ((↑x.fst.r.s : Int) + Int.ofNat 1)).toNat x_2 x.fst.r.l) (Int.ofNat 0) (Int.ofNat 0) (Int.ofNat 0) (Int.ofNat 0) (Int.ofNat 0) (Int.ofNat 0), x.snd))
    (V.need (M - (IntKind.i64.wrap ((↑x.fst.r.s : Int) + Int.ofNat 1)).toNat < M - x.fst.r.s)
    (V.need (IntKind.i64.wrap ((↑x.fst.r.s : Int) + Int.ofNat 1) = (↑(IntKind.i64.wrap ((↑x.fst.r.s : Int) + Int.ofNat 1)).toNat : Int))
    (nN [qE w, qE x.fst.x, qE false, qE x.fst.p, qE x.fst.p, qE (IntKind.i64.wrap (x.fst.c + Int.ofNat 1)), qE n, qE cap, qE x_2.lk, qE x_2.lc, qE x_2.lo, qE x_2.ln, qE x_2.ct, qE cap, qL n, qF n x_2.g, qE y.W, qE y.L, qE y.T, qE y.D, qE y.H, qE z.B, qE z.A, qE z.Q, qE z.nP, qE z.rc, qE z.nU, qE z.cu, qE y.W, qE y.L, qE y.C, qE y.T, qE y.D, qE y.H, qE y.sl, qE y.ep, qE y.bm, qE y.qu, qE y.tb, qE x.fst.r.l.n, qE x.snd, qE x.snd, qL x.fst.r.l.n, qF x.fst.r.l.n x.fst.r.l.v.k, qF x.fst.r.l.n x.fst.r.l.v.w, qF x.fst.r.l.n x.fst.r.l.v.t, qF x.fst.r.l.n x.fst.r.l.v.o, qF x.fst.r.l.n x.fst.r.l.v.l] V.ok)))))))))))
    (V.need (φ (Re.mk (Int.negSucc 0) (Int.ofNat 0) (↑x.fst.r.s : Int) x.fst.r.m x.fst.r.l, x.snd))
    (nN [qE (Int.negSucc 0), (1, .eqI 0 0), qE ((↑x.fst.r.s : Int)), qE y.W, qE y.L, qE y.T, qE y.D, qE y.H, qE z.B, qE z.A, qE z.Q, qE z.nP, qE z.rc, qE z.nU, qE z.cu, qE y.W, qE y.L, qE y.C, qE y.T, qE y.D, qE y.H, qE y.sl, qE y.ep, qE y.bm, qE y.qu, qE y.tb, qE x.fst.r.l.n, qE x.snd, qE n, qE cap, qE x.fst.r.m.lk, qE x.fst.r.m.lc, qE x.fst.r.m.lo, qE x.fst.r.m.ln, qE x.fst.r.m.ct, qE cap, qL n, qF n x.fst.r.m.g, qE x.snd, qL x.fst.r.l.n, qF x.fst.r.l.n x.fst.r.l.v.k, qF x.fst.r.l.n x.fst.r.l.v.w, qF x.fst.r.l.n x.fst.r.l.v.t, qF x.fst.r.l.n x.fst.r.l.v.o, qF x.fst.r.l.n x.fst.r.l.v.l] V.ok)))
    (V.any Bool (fun (x : Bool) => True) fun (b : Bool) => V.br b
    (V.any (XDr × Nat) (fun (x : XDr × Nat) => I (7, x)) fun (x : XDr × Nat) => V.br (decide ((↑x.fst.r.s : Int) < (↑M : Int)))
    (nN [(16, .lt2 0 1 0 1), (1, .eqI 1 1), (1, .eqI 0 0), qE n, qE cap, qE x.fst.r.m.lk, qE x.fst.r.m.lc, qE x.fst.r.m.lo, qE x.fst.r.m.ln, qE x.fst.r.m.ct, qE cap, qL n, qF n x.fst.r.m.g, qX (x.fst.r.m.acc n (Int.ofNat 2) (Int.ofNat 1) (Int.ofNat 0))]
    (V.any Mm (fun (m' : Mm) => m' = x.fst.r.m.acc n (Int.ofNat 2) (Int.ofNat 1) (Int.ofNat 0)) fun (x_1 : Mm) => nN [(6, .lt2 0 1 0 1)]
    (V.br (decide (x.fst.c > Int.ofNat 0))
    (nN [(6, .lt2 0 1 0 1)]
    (V.need (I (8, XDr.mk x.fst.x x.fst.p x.fst.ls x.fst.c x.fst.dir (noRm (Int.ofNat 0) (IntKind.i64.wrap ((↑x.fst.r.s : Int) + Int.ofNat 1)).toNat x_1 x.fst.r.l) (Int.ofNat 0) (Int.ofNat 0) (Int.ofNat 0) (Int.ofNat 0) (Int.ofNat 0) (Int.ofNat 0), x.snd))
    (V.need (M - (IntKind.i64.wrap ((↑x.fst.r.s : Int) + Int.ofNat 1)).toNat < M - x.fst.r.s)
    (V.need (IntKind.i64.wrap ((↑x.fst.r.s : Int) + Int.ofNat 1) = (↑(IntKind.i64.wrap ((↑x.fst.r.s : Int) + Int.ofNat 1)).toNat : Int))
    (nN [qE w, qE x.fst.x, qE x.fst.dir, qE x.fst.p, qE x.fst.ls, qE x.fst.c, qE n, qE cap, qE x_1.lk, qE x_1.lc, qE x_1.lo, qE x_1.ln, qE x_1.ct, qE cap, qL n, qF n x_1.g, qE y.W, qE y.L, qE y.T, qE y.D, qE y.H, qE z.B, qE z.A, qE z.Q, qE z.nP, qE z.rc, qE z.nU, qE z.cu, qE y.W, qE y.L, qE y.C, qE y.T, qE y.D, qE y.H, qE y.sl, qE y.ep, qE y.bm, qE y.qu, qE y.tb, qE x.fst.r.l.n, qE x.snd, qE x.snd, qL x.fst.r.l.n, qF x.fst.r.l.n x.fst.r.l.v.k, qF x.fst.r.l.n x.fst.r.l.v.w, qF x.fst.r.l.n x.fst.r.l.v.t, qF x.fst.r.l.n x.fst.r.l.v.o, qF x.fst.r.l.n x.fst.r.l.v.l, qE w, qE x.fst.ls, (1, .le 0 0), (1, .pf (∀ (i : Nat), i < 0 → 0 ≤ 0) (by intros; exact Nat.le_refl _))] V.ok)))))
    (V.br x.fst.dir
    (nN [(11, .lt2 0 1 0 1)]
    (V.need (φ (Re.mk (Int.ofNat 1) x.fst.x (IntKind.i64.wrap ((↑x.fst.r.s : Int) + Int.ofNat 1)) x_1 x.fst.r.l, x.snd))
    (nN [(1, .eqI 1 1), qE x.fst.x, qE (IntKind.i64.wrap ((↑x.fst.r.s : Int) + Int.ofNat 1)), qE y.W, qE y.L, qE y.T, qE y.D, qE y.H, qE z.B, qE z.A, qE z.Q, qE z.nP, qE z.rc, qE z.nU, qE z.cu, qE y.W, qE y.L, qE y.C, qE y.T, qE y.D, qE y.H, qE y.sl, qE y.ep, qE y.bm, qE y.qu, qE y.tb, qE x.fst.r.l.n, qE x.snd, qE n, qE cap, qE x_1.lk, qE x_1.lc, qE x_1.lo, qE x_1.ln, qE x_1.ct, qE cap, qL n, qF n x_1.g, qE x.snd, qL x.fst.r.l.n, qF x.fst.r.l.n x.fst.r.l.v.k, qF x.fst.r.l.n x.fst.r.l.v.w, qF x.fst.r.l.n x.fst.r.l.v.t, qF x.fst.r.l.n x.fst.r.l.v.o, qF x.fst.r.l.n x.fst.r.l.v.l] V.ok)))
    (V.br (decide (x.fst.c > Int.ofNat 0))
    (nN [(11, .lt2 0 1 0 1)]
    (V.need (φ (Re.mk (Int.ofNat 0) x.fst.c (IntKind.i64.wrap ((↑x.fst.r.s : Int) + Int.ofNat 1)) x_1 x.fst.r.l, x.snd))
    (nN [(1, .eqI 0 0), qE x.fst.c, qE (IntKind.i64.wrap ((↑x.fst.r.s : Int) + Int.ofNat 1)), qE y.W, qE y.L, qE y.T, qE y.D, qE y.H, qE z.B, qE z.A, qE z.Q, qE z.nP, qE z.rc, qE z.nU, qE z.cu, qE y.W, qE y.L, qE y.C, qE y.T, qE y.D, qE y.H, qE y.sl, qE y.ep, qE y.bm, qE y.qu, qE y.tb, qE x.fst.r.l.n, qE x.snd, qE n, qE cap, qE x_1.lk, qE x_1.lc, qE x_1.lo, qE x_1.ln, qE x_1.ct, qE cap, qL n, qF n x_1.g, qE x.snd, qL x.fst.r.l.n, qF x.fst.r.l.n x.fst.r.l.v.k, qF x.fst.r.l.n x.fst.r.l.v.w, qF x.fst.r.l.n x.fst.r.l.v.t, qF x.fst.r.l.n x.fst.r.l.v.o, qF x.fst.r.l.n x.fst.r.l.v.l] V.ok)))
    (nN [(6, .lt2 0 1 0 1)]
    (V.need (φ (Re.mk (Int.ofNat 2) (Int.ofNat 0) (IntKind.i64.wrap ((↑x.fst.r.s : Int) + Int.ofNat 1)) x_1 x.fst.r.l, x.snd))
    (nN [(1, .eqI 2 2), (1, .eqI 0 0), qE (IntKind.i64.wrap ((↑x.fst.r.s : Int) + Int.ofNat 1)), qE y.W, qE y.L, qE y.T, qE y.D, qE y.H, qE z.B, qE z.A, qE z.Q, qE z.nP, qE z.rc, qE z.nU, qE z.cu, qE y.W, qE y.L, qE y.C, qE y.T, qE y.D, qE y.H, qE y.sl, qE y.ep, qE y.bm, qE y.qu, qE y.tb, qE x.fst.r.l.n, qE x.snd, qE n, qE cap, qE x_1.lk, qE x_1.lc, qE x_1.lo, qE x_1.ln, qE x_1.ct, qE cap, qL n, qF n x_1.g, qE x.snd, qL x.fst.r.l.n, qF x.fst.r.l.n x.fst.r.l.v.k, qF x.fst.r.l.n x.fst.r.l.v.w, qF x.fst.r.l.n x.fst.r.l.v.t, qF x.fst.r.l.n x.fst.r.l.v.o, qF x.fst.r.l.n x.fst.r.l.v.l] V.ok))))))))
    (V.need (φ (Re.mk (Int.negSucc 0) (Int.ofNat 0) (↑x.fst.r.s : Int) x.fst.r.m x.fst.r.l, x.snd))
    (nN [qE (Int.negSucc 0), (1, .eqI 0 0), qE ((↑x.fst.r.s : Int)), qE y.W, qE y.L, qE y.T, qE y.D, qE y.H, qE z.B, qE z.A, qE z.Q, qE z.nP, qE z.rc, qE z.nU, qE z.cu, qE y.W, qE y.L, qE y.C, qE y.T, qE y.D, qE y.H, qE y.sl, qE y.ep, qE y.bm, qE y.qu, qE y.tb, qE x.fst.r.l.n, qE x.snd, qE n, qE cap, qE x.fst.r.m.lk, qE x.fst.r.m.lc, qE x.fst.r.m.lo, qE x.fst.r.m.ln, qE x.fst.r.m.ct, qE cap, qL n, qF n x.fst.r.m.g, qE x.snd, qL x.fst.r.l.n, qF x.fst.r.l.n x.fst.r.l.v.k, qF x.fst.r.l.n x.fst.r.l.v.w, qF x.fst.r.l.n x.fst.r.l.v.t, qF x.fst.r.l.n x.fst.r.l.v.o, qF x.fst.r.l.n x.fst.r.l.v.l] V.ok)))
    (V.any Bool (fun (x : Bool) => True) fun (b : Bool) => V.br b
    (V.any (XDr × Nat) (fun (x : XDr × Nat) => I (8, x)) fun (x : XDr × Nat) => V.br (decide ((↑x.fst.r.s : Int) < (↑M : Int)))
    (nN [(36, .lt2 0 1 0 1), qE x.fst.ls, qE y.L, (1, .eqI 1 1)]
    (V.need True
    (V.need (∃ (x : Int), True)
    (V.any Int (fun (r : Int) => True) fun (x_1 : Int) => nN [(5, .lt2 0 1 0 1), qE (IntKind.i64.wrap (x_1 + Int.ofNat 0))]
    (V.need True
    (nN [qX (Int.ofNat 0)]
    (V.any Int (fun (r : Int) => r = Int.ofNat 0) fun (x_2 : Int) => nN [qE x_2, qE y.C, qE y.sl, (1, .eqI 1 1)]
    (V.need (okAtT x_2 y.C y.sl (Int.ofNat 1))
    (nN [qX (atM x_2 y.C y.sl (Int.ofNat 1))]
    (V.any Int (fun (r : Int) => r = atM x_2 y.C y.sl (Int.ofNat 1)) fun (x_3 : Int) => nN [qE x_3, qE n, qE cap, qE x.fst.r.m.lk, qE x.fst.r.m.lc, qE x.fst.r.m.lo, qE x.fst.r.m.ln, qE x.fst.r.m.ct, qE cap, qL n, qF n x.fst.r.m.g, qX (x.fst.r.m.acc n (Int.ofNat 1) x_3 (x.fst.r.m.val n x_3))]
    (V.any Mm (fun (m' : Mm) => m' = x.fst.r.m.acc n (Int.ofNat 1) x_3 (x.fst.r.m.val n x_3)) fun (x_4 : Mm) => nN [qX (x.fst.r.m.val n x_3)]
    (V.any Int (fun (v : Int) => v = x.fst.r.m.val n x_3) fun (x_5 : Int) => V.br (x_5 != Int.ofNat 0)
    (V.br (x_5 == Int.ofNat 0)
    (V.need (I (8, XDr.mk x.fst.x x.fst.p x.fst.ls x.fst.c x.fst.dir (noRm (Int.ofNat 0) (IntKind.i64.wrap ((↑x.fst.r.s : Int) + Int.ofNat 1)).toNat x_4 x.fst.r.l) (Int.ofNat 0) (Int.ofNat 0) (Int.ofNat 0) (Int.ofNat 0) (Int.ofNat 0) (Int.ofNat 0), x.snd))
    (V.need (M - (IntKind.i64.wrap ((↑x.fst.r.s : Int) + Int.ofNat 1)).toNat < M - x.fst.r.s)
    (V.bad 400)))
    (V.br (x_5 == Int.ofNat 0)
    (V.need (I (8, XDr.mk x.fst.x x.fst.p x.fst.ls x.fst.c x.fst.dir (noRm (Int.ofNat 0) (IntKind.i64.wrap ((↑x.fst.r.s : Int) + Int.ofNat 1)).toNat x_4 x.fst.r.l) (Int.ofNat 0) (Int.ofNat 0) (Int.ofNat 0) (Int.ofNat 0) (Int.ofNat 0) (Int.ofNat 0), x.snd))
    (V.need (M - (IntKind.i64.wrap ((↑x.fst.r.s : Int) + Int.ofNat 1)).toNat < M - x.fst.r.s)
    (V.bad 400)))
    (nN [(1, .leI 0 58)]
    (V.bad 218))))
    (nN [(13, .lt2 0 1 0 1)]
    (V.br x.fst.dir
    (nN [(11, .lt2 0 1 0 1)]
    (V.need (φ (Re.mk (Int.ofNat 1) x.fst.x (IntKind.i64.wrap ((↑x.fst.r.s : Int) + Int.ofNat 1)) x_4 x.fst.r.l, x.snd))
    (nN [(1, .eqI 1 1), qE x.fst.x, qE (IntKind.i64.wrap ((↑x.fst.r.s : Int) + Int.ofNat 1)), qE y.W, qE y.L, qE y.T, qE y.D, qE y.H, qE z.B, qE z.A, qE z.Q, qE z.nP, qE z.rc, qE z.nU, qE z.cu, qE y.W, qE y.L, qE y.C, qE y.T, qE y.D, qE y.H, qE y.sl, qE y.ep, qE y.bm, qE y.qu, qE y.tb, qE x.fst.r.l.n, qE x.snd, qE n, qE cap, qE x_4.lk, qE x_4.lc, qE x_4.lo, qE x_4.ln, qE x_4.ct, qE cap, qL n, qF n x_4.g, qE x.snd, qL x.fst.r.l.n, qF x.fst.r.l.n x.fst.r.l.v.k, qF x.fst.r.l.n x.fst.r.l.v.w, qF x.fst.r.l.n x.fst.r.l.v.t, qF x.fst.r.l.n x.fst.r.l.v.o, qF x.fst.r.l.n x.fst.r.l.v.l] V.ok)))
    (V.br (decide (x.fst.c > Int.ofNat 0))
    (nN [(11, .lt2 0 1 0 1)]
    (V.need (φ (Re.mk (Int.ofNat 0) x.fst.c (IntKind.i64.wrap ((↑x.fst.r.s : Int) + Int.ofNat 1)) x_4 x.fst.r.l, x.snd))
    (nN [(1, .eqI 0 0), qE x.fst.c, qE (IntKind.i64.wrap ((↑x.fst.r.s : Int) + Int.ofNat 1)), qE y.W, qE y.L, qE y.T, qE y.D, qE y.H, qE z.B, qE z.A, qE z.Q, qE z.nP, qE z.rc, qE z.nU, qE z.cu, qE y.W, qE y.L, qE y.C, qE y.T, qE y.D, qE y.H, qE y.sl, qE y.ep, qE y.bm, qE y.qu, qE y.tb, qE x.fst.r.l.n, qE x.snd, qE n, qE cap, qE x_4.lk, qE x_4.lc, qE x_4.lo, qE x_4.ln, qE x_4.ct, qE cap, qL n, qF n x_4.g, qE x.snd, qL x.fst.r.l.n, qF x.fst.r.l.n x.fst.r.l.v.k, qF x.fst.r.l.n x.fst.r.l.v.w, qF x.fst.r.l.n x.fst.r.l.v.t, qF x.fst.r.l.n x.fst.r.l.v.o, qF x.fst.r.l.n x.fst.r.l.v.l] V.ok)))
    (nN [(6, .lt2 0 1 0 1)]
    (V.need (φ (Re.mk (Int.ofNat 2) (Int.ofNat 0) (IntKind.i64.wrap ((↑x.fst.r.s : Int) + Int.ofNat 1)) x_4 x.fst.r.l, x.snd))
    (nN [(1, .eqI 2 2), (1, .eqI 0 0), qE (IntKind.i64.wrap ((↑x.fst.r.s : Int) + Int.ofNat 1)), qE y.W, qE y.L, qE y.T, qE y.D, qE y.H, qE z.B, qE z.A, qE z.Q, qE z.nP, qE z.rc, qE z.nU, qE z.cu, qE y.W, qE y.L, qE y.C, qE y.T, qE y.D, qE y.H, qE y.sl, qE y.ep, qE y.bm, qE y.qu, qE y.tb, qE x.fst.r.l.n, qE x.snd, qE n, qE cap, qE x_4.lk, qE x_4.lc, qE x_4.lo, qE x_4.ln, qE x_4.ct, qE cap, qL n, qF n x_4.g, qE x.snd, qL x.fst.r.l.n, qF x.fst.r.l.n x.fst.r.l.v.k, qF x.fst.r.l.n x.fst.r.l.v.w, qF x.fst.r.l.n x.fst.r.l.v.t, qF x.fst.r.l.n x.fst.r.l.v.o, qF x.fst.r.l.n x.fst.r.l.v.l] V.ok))))))))))))))))))
    (V.need (φ (Re.mk (Int.negSucc 0) (Int.ofNat 0) (↑x.fst.r.s : Int) x.fst.r.m x.fst.r.l, x.snd))
    (nN [qE (Int.negSucc 0), (1, .eqI 0 0), qE ((↑x.fst.r.s : Int)), qE y.W, qE y.L, qE y.T, qE y.D, qE y.H, qE z.B, qE z.A, qE z.Q, qE z.nP, qE z.rc, qE z.nU, qE z.cu, qE y.W, qE y.L, qE y.C, qE y.T, qE y.D, qE y.H, qE y.sl, qE y.ep, qE y.bm, qE y.qu, qE y.tb, qE x.fst.r.l.n, qE x.snd, qE n, qE cap, qE x.fst.r.m.lk, qE x.fst.r.m.lc, qE x.fst.r.m.lo, qE x.fst.r.m.ln, qE x.fst.r.m.ct, qE cap, qL n, qF n x.fst.r.m.g, qE x.snd, qL x.fst.r.l.n, qF x.fst.r.l.n x.fst.r.l.v.k, qF x.fst.r.l.n x.fst.r.l.v.w, qF x.fst.r.l.n x.fst.r.l.v.t, qF x.fst.r.l.n x.fst.r.l.v.o, qF x.fst.r.l.n x.fst.r.l.v.l] V.ok))) V.ok)))))))))))))) := by kernel_rfl


end Go.Proofs.YtomaagmleafjeaaGreat.Md

/- Drain alone: the conditions hold. -/
set_option linter.unusedVariables false
set_option linter.unusedSimpArgs false
set_option maxRecDepth 100000
namespace Go.Proofs.YtomaagmleafjeaaGreat.Md
open Go Go.RowKit Sx Cn Dc Ck Vc
theorem drRun_lt {y : Ly} {n : Nat} {w B : Int} {k M : Nat} (h : k < M) (s : Nat × XDr) : drRun y n w B (M - k) s = match drStep y n w B s with
    | none => none
    | some (x', none) => drRun y n w B (M - (k + 1)) x'
    | some (x', some r) => some ⟨r.1, r.2, x'.2.r.s, x'.2.r.m, x'.2.r.l⟩ := by
  rw [show M - k = (M - (k + 1)) + 1 by omega]
  rfl
theorem drRun_eq {y : Ly} {n : Nat} {w B : Int} {k M : Nat} (h : ¬ k < M) (s : Nat × XDr) : drRun y n w B (M - k) s = some ⟨-1, 0, (s.2.r.s : Int), s.2.r.m, s.2.r.l⟩ := by
  rw [show M - k = 0 by omega]
  rfl
theorem fin_of {A R : Re} {nc : Nat} (h : some R = some A) (hn : A.l.n ≤ nc) : A = R ∧ R.l.n ≤ nc := by
  obtain rfl := Option.some.inj h
  exact ⟨rfl, hn⟩
theorem okDr_i {y : Ly} {n : Nat} {w B : Int} {M : Nat} {R : Re} {q : Nat} {x : XDr} {nc : Nat} (hq : q < 9) (hs : x.r.s ≤ M) (h1 : x.r.l.n ≤ nc) (h2 : x.r.l.n ≤ 1000 + x.r.s) (hc : x.qc ≤ 9223372036854775807) (hd : q < 7 → x.dir = false) (hr : drRun y n w B (M - x.r.s) (q, x) = some R) : okDr y n w B M R (q, x, nc) := ⟨hq, hs, ⟨h1, h2⟩, hc, hd, hr⟩
/-- What is asked of a layout and a worker. -/
structure DrOK (y : Ly) (w : Int) : Prop where
  H : 0 ≤ y.H ∧ y.H ≤ 1000
  s : y.small
  W : okAtT w y.W y.bm 1
  C : okAtT 0 y.C y.sl 1
  T : ∀ t : Int, okAtT t y.T (IntKind.i64.wrap (y.tb + 1)) 5
  L : y.L ≠ 0
set_option maxHeartbeats 16000000 in
theorem vhDr {y : Ly} {z : Cz} {n cap : Nat} {w : Int} {M : Nat} {m : Mm} {l : El} {nc : Nat} {R : Re} (hy : DrOK y w) (hM : M ≤ 1000) (hl : l.n ≤ nc ∧ l.n ≤ 1000) (hR : drR y n w z.B M m l = some R) : VHolds (verDr y z n cap w M m l nc (okDr y n w z.B M R) fun r => r.1 = R ∧ R.l.n ≤ r.2) := by
  constructor
  rw [verDr_eq]
  refine V.needI ⟨Nat.zero_lt_succ _, Nat.zero_le _, ⟨hl.1, by show l.n ≤ 1000 + 0; omega⟩, by show (0 : Int) ≤ 9223372036854775807; decide, fun _ => rfl, hR⟩ (V.needI rfl (nN_h rfl (V.needI (fun i h => by omega) (V.needI (fun i h => by omega) (V.needI (fun x hx => hx.1) ?_)))))
  refine V.anyI fun b _ => V.brI (fun _ => V.anyI fun x hx => ?s0) (fun _ => V.anyI fun b _ => V.brI (fun _ => V.anyI fun x hx => ?s1) (fun _ => V.anyI fun b _ => V.brI (fun _ => V.anyI fun x hx => ?s2)
    (fun _ => V.anyI fun b _ => V.brI (fun _ => V.anyI fun x hx => ?s3) (fun _ => V.anyI fun b _ => V.brI (fun _ => V.anyI fun x hx => ?s4) (fun _ => V.anyI fun b _ => V.brI (fun _ => V.anyI fun x hx => ?s5)
    (fun _ => V.anyI fun b _ => V.brI (fun _ => V.anyI fun x hx => ?s6) (fun _ => V.anyI fun b _ => V.brI (fun _ => V.anyI fun x hx => ?s7) (fun _ => V.anyI fun b _ => V.brI (fun _ => V.anyI fun x hx => ?s8) (fun _ => V.okI)))))))))
  all_goals
    obtain ⟨x, nc⟩ := x
    obtain ⟨-, hk, ⟨hn, hn2⟩, hc, hd, hR⟩ := hx
    clear hl
    dsimp only at hk hn hn2 hc hd hR ⊢
    refine V.brI (fun hlt => ?_) (fun hge => ?_)
    case' refine_1 =>
      have hlt : x.r.s < M := by simpa using hlt
      rw [drRun_lt hlt] at hR
      have ek : IntKind.i64.wrap ((x.r.s : Int) + Int.ofNat 1) = ((x.r.s + 1 : Nat) : Int) := wnat (by omega)
      simp only [ek, Int.toNat_natCast]
    case' refine_2 =>
      have hge : ¬ x.r.s < M := by simpa using hge
      rw [drRun_eq hge] at hR
      have hR := Option.some.inj hR
  all_goals (repeat' first | with_reducible exact V.okI | with_reducible refine V.brT ?_ | with_reducible refine V.brF ?_ | with_reducible refine V.brI ?_ ?_ | with_reducible refine V.anyI ?_ | with_reducible refine nN_h rfl ?_ | with_reducible refine V.needI ?_ ?_ | with_reducible intro _)
  all_goals subst_vars
  all_goals simp only [Int.ofNat_eq_natCast, Int.cast_ofNat_Int, Int.natCast_zero, Int.natCast_one, decide_eq_true_eq, decide_eq_false_iff_not, beq_iff_eq, beq_eq_false_iff_ne, Mm.eta, Bool.not_eq_true', Bool.not_eq_false', gt_iff_lt, bne_iff_ne, bne_eq_false_iff_eq, ne_eq, true_and] at *
  all_goals first
    | with_reducible rfl
    | omega
    | exact slot_ok hy.H
    | exact hy.W
    | exact hy.C
    | exact hy.T _
    | exact hy.s
    | exact ⟨0, trivial⟩
    | exact ⟨Nat.le_refl _, trivial⟩
    | exact ⟨rfl, hn⟩
    | exact hy.L
    | (refine okDr_i (by decide) ?_ ?_ ?_ ?_ (fun h => ?_) (Eq.trans ?_ hR)
       · dsimp only [noRm]; omega
       · dsimp only [noRm]; omega
       · dsimp only [noRm]; omega
       · dsimp only
         first
           | exact hc
           | exact quM_c hy.s _ _
           | decide
       · first
           | rfl
           | exact hd h
           | exact absurd h (by decide)
       · clear hR
         first
           | (simp only [drStep, *, if_true]; done)
           | (simp [drStep, rmStep, XDr.go, noRm, *]; done)
           | (simp [drStep, rmStep, kid, kid2, les, chl, dsc, slM, tkW, El.put, noRm, XDr.go, *]; done)
           | (simp [drStep, puStep, XDr.pu, XDr.go, noRm, sz, us, k2, k3, k4, k5, k6, k7, k8, *]; done)
           | skip)
    | (refine fin_of (hR.symm.trans ?_) hn
       clear hR
       first
         | (simp [drStep, drEnd, XDr.go, noRm, *]; done)
         | skip)
    | (exfalso; simp [drStep, *] at hR; done)
    | skip
end Go.Proofs.YtomaagmleafjeaaGreat.Md
