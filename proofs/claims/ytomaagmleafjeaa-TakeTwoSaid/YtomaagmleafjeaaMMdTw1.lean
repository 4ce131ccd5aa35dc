/- TakeTwo: the conditions, printed by program. -/
import Derived.Test.YtomaagmleafjeaaMMdTwD
import Derived.Test.YtomaagmleafjeaaMW
import Derived.Test.YtomaagmleafjeaaMV
set_option linter.unusedVariables false
set_option linter.unusedSimpArgs false
set_option maxRecDepth 100000
namespace Go.Proofs.Ytomaagmleafjeaa.Md
open Go Go.RowKit Sx Cn Dc Ck Vc

/-- The part that stands twice: the picks. -/
noncomputable def twL1 (p : Nat → Int) (lp : Nat) (I4 : Nat × XTw → Prop) (x_1 : Cf × Nat) (x : XI2) : V :=
  nN [(2, .lt2 0 1 0 1)]
    (V.need (I4 (0, XTw.mk (Int.ofNat 0) x.m (El.mk 0 (Evs.mk (fun (i : Nat) => Int.ofNat 0) (fun (i : Nat) => Int.ofNat 0) (fun (i : Nat) => Int.ofNat 0) (fun (i : Nat) => Int.ofNat 0) fun (i : Nat) => Int.ofNat 0)) 0 (fun (i : Nat) => false) (fun (i : Nat) => Int.ofNat 0) mnZ mnZ))
    (nN [(1, .eqI 0 0)] (nMm x.m (nLy (nN [qE x_1.snd, (3, .eq 0 0), (1, .le 0 0), qF 0 (fun (e : Nat) => Int.ofNat 0), qF 0 (fun (e : Nat) => Int.ofNat 0), qF 0 (fun (e : Nat) => Int.ofNat 0), qF 0 (fun (e : Nat) => Int.ofNat 0), qF 0 (fun (e : Nat) => Int.ofNat 0), qE x_1.snd, (1, .le 9 9), qF 9 (fun (e : Nat) => false), (1, .eq 2 2), (1, .le 2 2), (1, .eq 9 9), (1, .le 9 9), qF 9 (fun (e : Nat) => Int.ofNat 0)] (V.need (∀ (i : Nat), i < 0 → 0 ≤ 0 ∧ 0 ≤ 0)
    (V.need (∀ (i : Nat), i < 0 → 0 ≤ 0 ∧ 0 ≤ 0)
    (V.need (∀ (i : Nat), i < 0 → 0 ≤ 0 ∧ 0 ≤ 0)
    (V.need (∀ (i : Nat), i < 0 → 0 ≤ 0 ∧ 0 ≤ 0)
    (V.need (∀ (i : Nat), i < 0 → 0 ≤ 0 ∧ 0 ≤ 0)
    (V.need (∀ (i : Nat), i < 0 → 0 ≤ 0 ∧ 0 ≤ 0)
    (V.need (∀ (x : Nat × XTw), I4 x → x.fst < 25)
    (V.any Bool (fun (x : Bool) => True) fun (b : Bool) => V.br b
    (V.any XTw (fun (x : XTw) => I4 (5, x)) fun (x : XTw) => V.br (decide (x.i < (↑lp : Int)))
    (nHd p lp x fun (x_4 : Int) => V.br (decide (x_4 = Int.ofNat 0))
    (nN [(6, .lt 0 2)] (nLy (nN [qE x_1.snd, qE x.l.n, qE x.nc] (nMm x.m (nN [(2, .eqI 0 0), qE x.a.lv] (nDu (nEl x.l x.nc (nN [qE x_1.snd, (1, .le 9 9), qF 9 x.st] (V.need (preTs yW 115 (Int.ofNat 0) 0 9 x.nc (ta0 x x.a))
    (nB5 (bTs yW 115 (Int.ofNat 0) 0 (ta0 x x.a)) fun (x_5 : Nat → Bool) => V.br (x_5 4)
    (anyE (φTs yW (Int.ofNat 0) (ta0 x x.a) 5) fun (x_6 : XTs) => nN [(2, .lt 0 2), (6, .lt2 0 1 0 1), (2, .lt 0 2)]
    (V.need (I4 (0, nxT x x_6 x.cl mnZ mnZ))
    (nF2 lp x x_6 x_1 (nN [qF 9 x.cl] (nDu (nDu (nDu (nDu V.ok))))))))
    (anyE (φTs yW (Int.ofNat 0) (ta0 x x.a) 1) fun (x_6 : XTs) => V.need (I4 (10, nxT x x_6 x.cl (mn1 x_6) mnZ))
    (nF2 lp x x_6 x_1 (nN [qF 9 x.cl, (2, .eqI 0 0), qE x_6.x.p.lv, qE x_6.x.p.qt, qE x_6.x.p.qb, qE x_6.x.p.qr, qE x_6.x.p.qc, qE x_6.x.p.ln, qE x_6.x.p.b, qE x_6.x.p.t] (nDu (nDu (nDu V.ok))))))))))))))))
    (V.br (decide (x_4 = Int.ofNat 1))
    (nN [(8, .lt 1 2)] (nLy (nN [qE x_1.snd, qE x.l.n, qE x.nc] (nMm x.m (nN [(2, .eqI 1 1), (1, .eqI 0 0)] (nDu (nEl x.l x.nc (nN [qE x_1.snd, (1, .le 9 9), qF 9 x.st] (V.need (preTs yW 115 (Int.ofNat 1) 0 9 x.nc (taZ x))
    (nB5 (bTs yW 115 (Int.ofNat 1) 0 (taZ x)) fun (x_5 : Nat → Bool) => V.br (x_5 4)
    (anyE (φTs yW (Int.ofNat 1) (taZ x) 5) fun (x_6 : XTs) => nN [(2, .lt 1 2), (6, .lt2 0 1 0 1), (2, .lt 1 2)]
    (V.need (I4 (5, nxT x x_6 x.cl (mn0 x.a.lv) mnZ))
    (nF2 lp x x_6 x_1 (nN [qF 9 x.cl, (2, .eqI 0 0), qE x.a.lv] (nDu (nDu (nDu (nDu V.ok))))))))
    (anyE (φTs yW (Int.ofNat 1) (taZ x) 1) fun (x_6 : XTs) => V.need (I4 (7, nxT x x_6 x.cl (mn0 x.a.lv) (mn1 x_6)))
    (nF2 lp x x_6 x_1 (nN [qF 9 x.cl, (2, .eqI 0 0), qE x.a.lv] (nDu (nN [(2, .eqI 1 1), qE x_6.x.p.lv, qE x_6.x.p.qt, qE x_6.x.p.qb, qE x_6.x.p.qr, qE x_6.x.p.qc, qE x_6.x.p.ln, qE x_6.x.p.b, qE x_6.x.p.t] V.ok)))))))))))))))
    (V.bad 353))) V.ok)
    (V.any Bool (fun (x : Bool) => True) fun (b : Bool) => V.br b
    (V.any XTw (fun (x : XTw) => I4 (6, x)) fun (x : XTw) => V.br (decide (x.i < (↑lp : Int)))
    (nHd p lp x fun (x_4 : Int) => V.br (decide (x_4 = Int.ofNat 0))
    (nN [(6, .lt 0 2)] (nLy (nN [qE x_1.snd, qE x.l.n, qE x.nc] (nMm x.m (nN [(2, .eqI 0 0), qE x.a.lv] (nDu (nEl x.l x.nc (nN [qE x_1.snd, (1, .le 9 9), qF 9 x.st] (V.need (preTs yW 115 (Int.ofNat 0) 0 9 x.nc (ta0 x x.a))
    (nB5 (bTs yW 115 (Int.ofNat 0) 0 (ta0 x x.a)) fun (x_5 : Nat → Bool) => V.br (x_5 4)
    (anyE (φTs yW (Int.ofNat 0) (ta0 x x.a) 5) fun (x_6 : XTs) => nN [(2, .lt 0 2), (6, .lt2 0 1 0 1), (2, .lt 0 2)]
    (V.need (I4 (1, nxT x x_6 x.cl mnZ (mn0 x.c.lv)))
    (nF2 lp x x_6 x_1 (nN [qF 9 x.cl] (nDu (nN [(2, .eqI 1 1), qE x.c.lv] (nDu V.ok)))))))
    (anyE (φTs yW (Int.ofNat 0) (ta0 x x.a) 1) fun (x_6 : XTs) => V.need (I4 (11, nxT x x_6 x.cl (mn1 x_6) (mn0 x.c.lv)))
    (nF2 lp x x_6 x_1 (nN [qF 9 x.cl, (2, .eqI 0 0), qE x_6.x.p.lv, qE x_6.x.p.qt, qE x_6.x.p.qb, qE x_6.x.p.qr, qE x_6.x.p.qc, qE x_6.x.p.ln, qE x_6.x.p.b, qE x_6.x.p.t, (2, .eqI 1 1), qE x.c.lv] (nDu V.ok))))))))))))))
    (V.br (decide (x_4 = Int.ofNat 1))
    (nN [(6, .lt 1 2)] (nLy (nN [qE x_1.snd, qE x.l.n, qE x.nc] (nMm x.m (nN [(2, .eqI 1 1), qE x.c.lv] (nDu (nEl x.l x.nc (nN [qE x_1.snd, (1, .le 9 9), qF 9 x.st] (V.need (preTs yW 115 (Int.ofNat 1) 0 9 x.nc (ta0 x x.c))
    (nB5 (bTs yW 115 (Int.ofNat 1) 0 (ta0 x x.c)) fun (x_5 : Nat → Bool) => V.br (x_5 4)
    (anyE (φTs yW (Int.ofNat 1) (ta0 x x.c) 5) fun (x_6 : XTs) => nN [(2, .lt 1 2), (6, .lt2 0 1 0 1), (2, .lt 1 2)]
    (V.need (I4 (5, nxT x x_6 x.cl (mn0 x.a.lv) mnZ))
    (nF2 lp x x_6 x_1 (nN [qF 9 x.cl, (2, .eqI 0 0), qE x.a.lv] (nDu (nDu V.ok))))))
    (anyE (φTs yW (Int.ofNat 1) (ta0 x x.c) 1) fun (x_6 : XTs) => V.need (I4 (7, nxT x x_6 x.cl (mn0 x.a.lv) (mn1 x_6)))
    (nF2 lp x x_6 x_1 (nN [qF 9 x.cl, (2, .eqI 0 0), qE x.a.lv] (nDu (nN [(2, .eqI 1 1), qE x_6.x.p.lv, qE x_6.x.p.qt, qE x_6.x.p.qb, qE x_6.x.p.qr, qE x_6.x.p.qc, qE x_6.x.p.ln, qE x_6.x.p.b, qE x_6.x.p.t] V.ok)))))))))))))))
    (V.bad 353))) V.ok)
    (V.any Bool (fun (x : Bool) => True) fun (b : Bool) => V.br b
    (V.any XTw (fun (x : XTw) => I4 (7, x)) fun (x : XTw) => V.br (decide (x.i < (↑lp : Int)))
    (nHd p lp x fun (x_4 : Int) => V.br (decide (x_4 = Int.ofNat 0))
    (nN [(6, .lt 0 2)] (nLy (nN [qE x_1.snd, qE x.l.n, qE x.nc] (nMm x.m (nN [(2, .eqI 0 0), qE x.a.lv] (nDu (nEl x.l x.nc (nN [qE x_1.snd, (1, .le 9 9), qF 9 x.st] (V.need (preTs yW 115 (Int.ofNat 0) 0 9 x.nc (ta0 x x.a))
    (nB5 (bTs yW 115 (Int.ofNat 0) 0 (ta0 x x.a)) fun (x_5 : Nat → Bool) => V.br (x_5 4)
    (anyE (φTs yW (Int.ofNat 0) (ta0 x x.a) 5) fun (x_6 : XTs) => nN [(2, .lt 0 2), (6, .lt2 0 1 0 1), (2, .lt 0 2)]
    (V.need (I4 (2, nxT x x_6 x.cl mnZ (mu1 x.c)))
    (nF2 lp x x_6 x_1 (nN [qF 9 x.cl] (nDu (nN [(2, .eqI 1 1), qE x.c.lv, qE x.c.qt, qE x.c.qb, qE x.c.qr, qE x.c.qc, qE x.c.ln, qE x.c.b, qE x.c.t] V.ok))))))
    (anyE (φTs yW (Int.ofNat 0) (ta0 x x.a) 1) fun (x_6 : XTs) => V.need (I4 (12, nxT x x_6 x.cl (mn1 x_6) (mu1 x.c)))
    (nF2 lp x x_6 x_1 (nN [qF 9 x.cl, (2, .eqI 0 0), qE x_6.x.p.lv, qE x_6.x.p.qt, qE x_6.x.p.qb, qE x_6.x.p.qr, qE x_6.x.p.qc, qE x_6.x.p.ln, qE x_6.x.p.b, qE x_6.x.p.t, (2, .eqI 1 1), qE x.c.lv, qE x.c.qt, qE x.c.qb, qE x.c.qr, qE x.c.qc, qE x.c.ln, qE x.c.b, qE x.c.t] V.ok)))))))))))))
    (V.br (decide (x_4 = Int.ofNat 1))
    (nN [(6, .lt 1 2)] (nLy (nN [qE x_1.snd, qE x.l.n, qE x.nc] (nMm x.m (nN [(2, .eqI 1 1), qE x.c.lv, qE x.c.qt, qE x.c.qb, qE x.c.qr, qE x.c.qc, qE x.c.ln, qE x.c.b, qE x.c.t] (nEl x.l x.nc (nN [qE x_1.snd, (1, .le 9 9), qF 9 x.st] (V.need (preTs yW 115 (Int.ofNat 1) 1 9 x.nc (ta1 x x.c))
    (nB5 (bTs yW 115 (Int.ofNat 1) 1 (ta1 x x.c)) fun (x_5 : Nat → Bool) => V.br (x_5 1)
    (anyE (φTs yW (Int.ofNat 1) (ta1 x x.c) 1) fun (x_6 : XTs) => V.need (I4 (7, nxT x x_6 x.cl (mn0 x.a.lv) (mn1 x_6)))
    (nF2 lp x x_6 x_1 (nN [qF 9 x.cl, (2, .eqI 0 0), qE x.a.lv] (nDu (nN [(2, .eqI 1 1), qE x_6.x.p.lv, qE x_6.x.p.qt, qE x_6.x.p.qb, qE x_6.x.p.qr, qE x_6.x.p.qc, qE x_6.x.p.ln, qE x_6.x.p.b, qE x_6.x.p.t] V.ok)))))
    (V.br (x_5 2)
    (anyE (φTs yW (Int.ofNat 1) (ta1 x x.c) 2) fun (x_6 : XTs) => V.need (I4 (8, nxT x x_6 x.cl (mn0 x.a.lv) (mn2 x_6)))
    (nF2 lp x x_6 x_1 (nN [qF 9 x.cl, (2, .eqI 0 0), qE x.a.lv] (nDu (nN [(2, .eqI 1 1), qE x_6.x.p.lv, qE (atM (Int.ofNat 1) (Int.ofNat 2) (Int.ofNat 8) (Int.ofNat 1)), qE x_6.x.p.lv, qE x_6.x.p.qt, qE x_6.x.p.qb, qE x_6.x.p.qr, qE x_6.x.p.qc, qE x_6.x.p.ln, qE x_6.x.p.b] V.ok)))))
    (anyE (φTs yW (Int.ofNat 1) (ta1 x x.c) 3) fun (x_6 : XTs) => V.need (I4 (9, nxT x x_6 x.cl (mn0 x.a.lv) (mn3 x_6.x.v)))
    (nF2 lp x x_6 x_1 (nN [qF 9 x.cl, (2, .eqI 0 0), qE x.a.lv] (nDu (nN [(2, .eqI 1 1), qE x_6.x.v] V.ok)))))))))))))))
    (V.bad 353))) V.ok)
    (V.any Bool (fun (x : Bool) => True) fun (b : Bool) => V.br b
    (V.any XTw (fun (x : XTw) => I4 (8, x)) fun (x : XTw) => V.br (decide (x.i < (↑lp : Int)))
    (nHd p lp x fun (x_4 : Int) => V.br (decide (x_4 = Int.ofNat 0))
    (nN [(6, .lt 0 2)] (nLy (nN [qE x_1.snd, qE x.l.n, qE x.nc] (nMm x.m (nN [(2, .eqI 0 0), qE x.a.lv] (nDu (nEl x.l x.nc (nN [qE x_1.snd, (1, .le 9 9), qF 9 x.st] (V.need (preTs yW 115 (Int.ofNat 0) 0 9 x.nc (ta0 x x.a))
    (nB5 (bTs yW 115 (Int.ofNat 0) 0 (ta0 x x.a)) fun (x_5 : Nat → Bool) => V.br (x_5 4)
    (anyE (φTs yW (Int.ofNat 0) (ta0 x x.a) 5) fun (x_6 : XTs) => nN [(2, .lt 0 2), (6, .lt2 0 1 0 1), (2, .lt 0 2)]
    (V.need (I4 (3, nxT x x_6 x.cl mnZ (mu2 x.c)))
    (nF2 lp x x_6 x_1 (nN [qF 9 x.cl] (nDu (nN [(2, .eqI 1 1), qE x.c.lv, qE (atM (Int.ofNat 1) (Int.ofNat 2) (Int.ofNat 8) (Int.ofNat 1)), qE x.c.lv, qE x.c.qt, qE x.c.qb, qE x.c.qr, qE x.c.qc, qE x.c.ln, qE x.c.b] V.ok))))))
    (anyE (φTs yW (Int.ofNat 0) (ta0 x x.a) 1) fun (x_6 : XTs) => V.need (I4 (13, nxT x x_6 x.cl (mn1 x_6) (mu2 x.c)))
    (nF2 lp x x_6 x_1 (nN [qF 9 x.cl, (2, .eqI 0 0), qE x_6.x.p.lv, qE x_6.x.p.qt, qE x_6.x.p.qb, qE x_6.x.p.qr, qE x_6.x.p.qc, qE x_6.x.p.ln, qE x_6.x.p.b, qE x_6.x.p.t, (2, .eqI 1 1), qE x.c.lv, qE (atM (Int.ofNat 1) (Int.ofNat 2) (Int.ofNat 8) (Int.ofNat 1)), qE x.c.lv, qE x.c.qt, qE x.c.qb, qE x.c.qr, qE x.c.qc, qE x.c.ln, qE x.c.b] V.ok)))))))))))))
    (V.br (decide (x_4 = Int.ofNat 1))
    (nN [(6, .lt 1 2)] (nLy (nN [qE x_1.snd, qE x.l.n, qE x.nc] (nMm x.m (nN [(2, .eqI 1 1), qE x.c.lv, qE (atM (Int.ofNat 1) (Int.ofNat 2) (Int.ofNat 8) (Int.ofNat 1)), qE x.c.lv, qE x.c.qt, qE x.c.qb, qE x.c.qr, qE x.c.qc, qE x.c.ln, qE x.c.b] (nEl x.l x.nc (nN [qE x_1.snd, (1, .le 9 9), qF 9 x.st] (V.need (preTs yW 115 (Int.ofNat 1) 2 9 x.nc (ta2 x x.c))
    (nB5 (bTs yW 115 (Int.ofNat 1) 2 (ta2 x x.c)) fun (x_5 : Nat → Bool) => V.br (x_5 2)
    (anyE (φTs yW (Int.ofNat 1) (ta2 x x.c) 2) fun (x_6 : XTs) => V.need (I4 (8, nxT x x_6 x.cl (mn0 x.a.lv) (mn2 x_6)))
    (nF2 lp x x_6 x_1 (nN [qF 9 x.cl, (2, .eqI 0 0), qE x.a.lv] (nDu (nN [(2, .eqI 1 1), qE x_6.x.p.lv, qE (atM (Int.ofNat 1) (Int.ofNat 2) (Int.ofNat 8) (Int.ofNat 1)), qE x_6.x.p.lv, qE x_6.x.p.qt, qE x_6.x.p.qb, qE x_6.x.p.qr, qE x_6.x.p.qc, qE x_6.x.p.ln, qE x_6.x.p.b] V.ok)))))
    (anyE (φTs yW (Int.ofNat 1) (ta2 x x.c) 0) fun (x_6 : XTs) => V.need (I4 (6, nxT x x_6 x.cl (mn0 x.a.lv) (mn0 x_6.x.p.lv)))
    (nF2 lp x x_6 x_1 (nN [qF 9 x.cl, (2, .eqI 0 0), qE x.a.lv] (nDu (nN [(2, .eqI 1 1), qE x_6.x.p.lv] V.ok))))))))))))))
    (V.bad 353))) V.ok)
    (V.any Bool (fun (x : Bool) => True) fun (b : Bool) => V.br b
    (V.any XTw (fun (x : XTw) => I4 (9, x)) fun (x : XTw) => V.br (decide (x.i < (↑lp : Int)))
    (nHd p lp x fun (x_4 : Int) => V.br (decide (x_4 = Int.ofNat 0))
    (nN [(6, .lt 0 2)] (nLy (nN [qE x_1.snd, qE x.l.n, qE x.nc] (nMm x.m (nN [(2, .eqI 0 0), qE x.a.lv] (nDu (nEl x.l x.nc (nN [qE x_1.snd, (1, .le 9 9), qF 9 x.st] (V.need (preTs yW 115 (Int.ofNat 0) 0 9 x.nc (ta0 x x.a))
    (nB5 (bTs yW 115 (Int.ofNat 0) 0 (ta0 x x.a)) fun (x_5 : Nat → Bool) => V.br (x_5 4)
    (anyE (φTs yW (Int.ofNat 0) (ta0 x x.a) 5) fun (x_6 : XTs) => nN [(2, .lt 0 2), (6, .lt2 0 1 0 1), (2, .lt 0 2)]
    (V.need (I4 (4, nxT x x_6 x.cl mnZ (mn3 x.c.v)))
    (nF2 lp x x_6 x_1 (nN [qF 9 x.cl] (nDu (nN [(2, .eqI 1 1), qE x.c.v] (nDu V.ok)))))))
    (anyE (φTs yW (Int.ofNat 0) (ta0 x x.a) 1) fun (x_6 : XTs) => V.need (I4 (14, nxT x x_6 x.cl (mn1 x_6) (mn3 x.c.v)))
    (nF2 lp x x_6 x_1 (nN [qF 9 x.cl, (2, .eqI 0 0), qE x_6.x.p.lv, qE x_6.x.p.qt, qE x_6.x.p.qb, qE x_6.x.p.qr, qE x_6.x.p.qc, qE x_6.x.p.ln, qE x_6.x.p.b, qE x_6.x.p.t, (2, .eqI 1 1), qE x.c.v] (nDu V.ok))))))))))))))
    (V.br (decide (x_4 = Int.ofNat 1))
    (nN [(6, .lt 1 2)] (nLy (nN [qE x_1.snd, qE x.l.n, qE x.nc] (nMm x.m (nN [(2, .eqI 1 1), qE x.c.v] (nDu (nEl x.l x.nc (nN [qE x_1.snd, (1, .le 9 9), qF 9 x.st] (V.need (preTs yW 115 (Int.ofNat 1) 3 9 x.nc (ta3 x x.c))
    (nB5 (bTs yW 115 (Int.ofNat 1) 3 (ta3 x x.c)) fun (x_5 : Nat → Bool) => V.br (x_5 4)
    (anyE (φTs yW (Int.ofNat 1) (ta3 x x.c) 4) fun (x_6 : XTs) => nN [(2, .lt 1 2), (6, .lt2 0 1 0 1), (2, .lt 1 2)]
    (V.br (decide (x_6.x.v < Int.ofNat 0))
    (V.bad 420)
    (nN [(2, .lt2 0 1 0 1)]
    (V.br (decide (x_6.x.v ≥ Int.ofNat 9))
    (V.bad 420)
    (V.need (Int.ofNat 0 ≤ x_6.x.v ∧ x_6.x.v < (↑9 : Int))
    (V.need (0 + x_6.x.v.toNat < 9)
    (V.need (0 + x_6.x.v.toNat < 9)
    (V.br (decide (x.cl (0 + x_6.x.v.toNat) > Int.ofNat 0))
    (V.bad 420)
    (V.need (Int.ofNat 0 ≤ x_6.x.v ∧ x_6.x.v < (↑9 : Int))
    (V.need (0 + x_6.x.v.toNat < 9)
    (V.need (0 + x_6.x.v.toNat < 9)
    (V.need (Int.ofNat 0 ≤ x_6.x.v ∧ x_6.x.v < (↑9 : Int))
    (V.need (0 + x_6.x.v.toNat < 9)
    (V.need (0 + x_6.x.v.toNat < 9)
    (V.need (I4 (5, nxT x x_6 (fun (i : Nat) => if 0 = 0 ∧ i = 0 + x_6.x.v.toNat then IntKind.i64.wrap (x.cl (0 + x_6.x.v.toNat) + Int.ofNat 1) else x.cl i) (mn0 x.a.lv) mnZ))
    (nMu lp x.i (nMm x_6.x.p.m (nLy (nN [qE x_1.snd, qE x_6.x.l.n, qE x_6.nc] (nEl x_6.x.l x_6.nc (nN [qE x_1.snd, (1, .le 9 9), qF 9 x_6.x.st, (1, .eq 2 2), (1, .le 2 2), (1, .eq 9 9), (1, .le 9 9)] (V.need (∀ (e : Nat), e < 9 → (if 0 = 0 ∧ e = 0 + x_6.x.v.toNat then IntKind.i64.wrap (x.cl (0 + x_6.x.v.toNat) + Int.ofNat 1) else x.cl e) = if 0 = 0 ∧ e = 0 + x_6.x.v.toNat then IntKind.i64.wrap (x.cl (0 + x_6.x.v.toNat) + Int.ofNat 1) else x.cl e)
    (nN [(2, .eqI 0 0), qE x.a.lv] (nDu (nDu V.ok)))))))))))))))))))))))))
    (anyE (φTs yW (Int.ofNat 1) (ta3 x x.c) 0) fun (x_6 : XTs) => V.need (I4 (6, nxT x x_6 x.cl (mn0 x.a.lv) (mn0 x_6.x.p.lv)))
    (nF2 lp x x_6 x_1 (nN [qF 9 x.cl, (2, .eqI 0 0), qE x.a.lv] (nDu (nN [(2, .eqI 1 1), qE x_6.x.p.lv] (nDu V.ok))))))))))))))))
    (V.bad 353))) V.ok) V.ok)))))))))))))))))
set_option maxHeartbeats 8000000 in
theorem verTw1_eq (g p : Nat → Int) (lg cg lp cp : Nat) (I1 I2 : XI2 → Prop) (I3 : XI2 → Prop) (I4 : Nat × XTw → Prop) : (verTwO 1 yW g p lg cg lp cp I1 I2 I3 I4) = preTw g lg lp I1 I2 I3 (twL1 p lp I4) := by kernel_rfl


end Go.Proofs.Ytomaagmleafjeaa.Md

/- TakeTwo: the conditions hold, for five of the shapes. -/
set_option maxRecDepth 100000
namespace Go.Proofs.Ytomaagmleafjeaa.Md
open Go Go.RowKit Sx Cn Dc Ck Vc
set_option maxHeartbeats 64000000 in
theorem twL1_h {p : Nat → Int} {lp : Nat} {d : Cf × Nat} {z : XI2} (h400 : ¬ (lp : Int) > 400) (hz : ∀ e, 0 ≤ z.m.g e ∧ z.m.g e ≤ 18446744073709551615) : (twL1 p lp (okTw lp) d z).holds := by
  unfold twL1
  ((repeat' first | with_reducible refine nN_h rfl ?_ | with_reducible refine V.brT ?_ | with_reducible refine V.brF ?_ | with_reducible refine V.needI ?_ ?_) <;> (try first | with_reducible exact V.okI | exact rfl | exact ⟨Nat.le_refl _, rfl⟩ | exact Nat.le_refl _ | assumption | omega | trivial | decide | (intros; rfl) | (intros; trivial)))
  · exact ⟨show (0 : Nat) < 25 by decide, ⟨Int.le_refl 0, Int.natCast_nonneg _⟩, hz, okM_n (show (0 : Nat) / 5 ≠ 2 ∧ (0 : Nat) / 5 ≠ 3 by decide), okM_n (show (0 : Nat) % 5 ≠ 2 ∧ (0 : Nat) % 5 ≠ 3 by decide), ⟨Nat.le_refl _, Int.le_refl 0⟩, fun t _ => ⟨show (0 : Int) ≤ 0 ∧ (0 : Int) ≤ 1 by decide, fun q => absurd q (show ¬ (0 : Int) < 0 by decide)⟩⟩
  refine nMm_h (nLy_h ?_)
  ((repeat' first | with_reducible refine nN_h rfl ?_ | with_reducible refine V.brT ?_ | with_reducible refine V.brF ?_ | with_reducible refine V.needI ?_ ?_) <;> (try first | with_reducible exact V.okI | exact rfl | exact ⟨Nat.le_refl _, rfl⟩ | exact Nat.le_refl _ | assumption | omega | trivial | decide | (intros; rfl) | (intros; trivial)))
  · exact fun x hx => hx.1
  iterate 5 (refine V.anyI fun _ _ => V.brI (fun _ => V.anyI fun x hx => ?_) fun _ => ?_; rotate_left)
  · exact V.okI
  all_goals
    obtain ⟨-, ⟨i1, i2⟩, hm, ha, hc, ⟨l1, l2⟩, hC⟩ := hx
    dsimp only at i1 i2 hm ha hc l1 l2 hC ⊢
    refine V.brI (fun hi => ?_) fun _ => V.okI
    have hi : x.i < lp := of_decide_eq_true hi
    have l3 : x.l.n ≤ 1000 := by omega
    have ei : IntKind.i64.wrap (x.i + Int.ofNat 1) = x.i + 1 := w64 (by simp only [Int.ofNat_eq_natCast]; omega)
    have hμ : ((lp : Int) - IntKind.i64.wrap (x.i + Int.ofNat 1)).toNat < ((lp : Int) - x.i).toNat := by rw [ei]; omega
    refine nHd_h i1 hi fun r hr => ?_
    have hr2 : 0 ≤ r ∧ r < 2 := by rw [hr]; exact dr_bd (by decide)
    refine V.brI (fun h0 => ?_) fun h0 => V.brI (fun h1 => ?_) fun h1 => ?_
    case' refine_3 => exact absurd h1 (by have h0 : ¬ r = 0 := of_decide_eq_false h0; rw [decide_eq_true (show r = Int.ofNat 1 by simp only [Int.ofNat_eq_natCast]; omega)]; decide)
  all_goals
    repeat' first
      | with_reducible exact V.okI
      | with_reducible refine nMm_h ?_
      | with_reducible refine nLy_h ?_
      | with_reducible refine nEl_h ?_
      | with_reducible refine nDu_h ?_
      | with_reducible refine nN_h rfl ?_
      | with_reducible refine nF2_h hμ ?_
      | with_reducible refine nMu_h hμ ?_
      | with_reducible refine nB5_h (fun b hbb => ?_)
      | with_reducible refine anyE_h ?_ (fun z hz => ?_)
      | with_reducible refine V.needI ?_ ?_
      | with_reducible refine V.brI (fun hb => ?_) (fun hb => ?_)
      | with_reducible refine V.anyI (fun b hbb => ?_)
  all_goals first
    | assumption
    | exact preT_n (.inl rfl) (by decide) hm l1 l3
    | exact preT_n (.inr rfl) (by decide) hm l1 l3
    | exact preT_1 (.inl rfl) ha hm l1 l3
    | exact preT_1 (.inr rfl) hc hm l1 l3
    | exact preT_2 (.inl rfl) ha hm l1 l3
    | exact preT_2 (.inr rfl) hc hm l1 l3
    | exact ex_i hm (by decide)
    | (subst hbb; first | exact ex_c (.inl rfl) hm (by assumption) | exact ex_c (.inr rfl) hm (by assumption))
    | (intro e he; rfl)
    | (have hv := (okC_c hC rfl hz).1; omega)
    | (have hv := (okC_c hC rfl hz).1; exact ⟨hv.1, hv.2⟩)
    | (exfalso
       obtain ⟨g1, g2, -⟩ := okC_c hC rfl hz
       have hb := of_decide_eq_true hb
       simp only [Nat.zero_add, Int.ofNat_eq_natCast] at hb
       omega)
    | (unfold nxT; rw [ei]
       refine tw_next hz rfl l2 i1 hi ?_ (by decide) ?_ ?_
       · first
           | exact okC_s hC rfl hz (by decide)
           | exact okC_k (okC_c hC rfl hz).2.2 (okC_c hC rfl hz).2.1
       · first
           | exact okM_n (by decide)
           | exact okM_S hz.1 (by decide) ⟨rfl, rfl, rfl, rfl, rfl⟩ (.inl rfl)
           | exact okM_S hz.1 (by decide) ⟨rfl, rfl, rfl, rfl, rfl⟩ (.inr rfl)
           | exact okM_0 ha ⟨rfl, rfl, rfl, rfl, rfl⟩ (.inl rfl)
           | exact okM_0 ha ⟨rfl, rfl, rfl, rfl, rfl⟩ (.inr rfl)
       · first
           | exact okM_n (by decide)
           | exact okM_S hz.1 (by decide) ⟨rfl, rfl, rfl, rfl, rfl⟩ (.inl rfl)
           | exact okM_S hz.1 (by decide) ⟨rfl, rfl, rfl, rfl, rfl⟩ (.inr rfl)
           | exact okM_0 hc ⟨rfl, rfl, rfl, rfl, rfl⟩ (.inl rfl)
           | exact okM_0 hc ⟨rfl, rfl, rfl, rfl, rfl⟩ (.inr rfl))
theorem vhTw1 {g p : Nat → Int} {lg cg lp cp : Nat} : VHolds (verTwO 1 yW g p lg cg lp cp (okW 9) (okW (min lg 12)) (okW 2) (okTw lp)) := ⟨by rw [verTw1_eq]; exact preTw_h fun h hz => twL1_h h hz⟩
end Go.Proofs.Ytomaagmleafjeaa.Md
