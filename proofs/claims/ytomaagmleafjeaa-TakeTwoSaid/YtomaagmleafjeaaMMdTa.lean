/- Take alone: the conditions, printed by program. -/
import Derived.Test.YtomaagmleafjeaaMMdTaD
import Derived.Test.YtomaagmleafjeaaMW
import Derived.Test.YtomaagmleafjeaaMMdBr
set_option linter.unusedVariables false
set_option linter.unusedSimpArgs false
set_option maxRecDepth 100000
namespace Go.Proofs.Ytomaagmleafjeaa.Md
open Go Go.RowKit Sx Cn Dc Ck Vc

set_option maxHeartbeats 8000000 in
theorem verTa_eq (y : Ly) (n cap : Nat) (w : Int) (nr cr M : Nat) (m : Mm) (l : El) (nc : Nat) (st : Nat → Bool) (I : Nat × XTa × Nat → Prop) (φ : Rt × Nat → Prop) : verTa y n cap w nr cr M m l nc st I φ =
  V.need (I (0, XTa.mk (XPo.mk (Int.ofNat 0) (Int.ofNat 0) (Int.ofNat 0) (Int.ofNat 0) (Int.ofNat 0) (Int.ofNat 0) (Int.ofNat 0) (Int.ofNat 0) 0 m) l st (Int.ofNat 0), nc))
    (V.need (Int.ofNat 0 = (↑0 : Int))
    (nN [qE w, qE n, qE cap, qE m.lk, qE m.lc, qE m.lo, qE m.ln, qE m.ct, qE cap, qL n, qF n m.g, qE y.W, qE y.L, qE y.C, qE y.T, qE y.D, qE y.H, qE y.sl, qE y.ep, qE y.bm, qE y.qu, qE y.tb, qE nr, qE cr, qE l.n, qE nc, qE nc, qL l.n, qF l.n l.v.k, qF l.n l.v.w, qF l.n l.v.t, qF l.n l.v.o, qF l.n l.v.l, qE w, (1, .eqI 0 0)]
    (V.need (∀ (i : Nat), i < 0 → 0 ≤ 0 ∧ 0 ≤ 0)
    (nN [qE cr, qL nr, qF nr st]
    (V.need (∀ (x : Nat × XTa × Nat), I x → x.fst < 4)
    (V.any Bool (fun (x : Bool) => True) fun (b : Bool) => V.br b
    (V.any (XTa × Nat) (fun (x : XTa × Nat) => I (0, x)) fun (x : XTa × Nat) => V.br (decide ((↑x.fst.p.k : Int) < (↑M : Int)))
    (nN [(19, .lt2 0 1 0 1), qE w, qE y.W, qE y.bm, (1, .eqI 1 1)]
    (V.need (okAtT w y.W y.bm (Int.ofNat 1))
    (nN [qX (atM w y.W y.bm (Int.ofNat 1))]
    (V.any Int (fun (r : Int) => r = atM w y.W y.bm (Int.ofNat 1)) fun (x_1 : Int) => nN [qE x_1, qE n, qE cap, qE x.fst.p.m.lk, qE x.fst.p.m.lc, qE x.fst.p.m.lo, qE x.fst.p.m.ln, qE x.fst.p.m.ct, qE cap, qL n, qF n x.fst.p.m.g, qX (x.fst.p.m.acc n (Int.ofNat 1) x_1 (x.fst.p.m.val n x_1))]
    (V.any Mm (fun (m' : Mm) => m' = x.fst.p.m.acc n (Int.ofNat 1) x_1 (x.fst.p.m.val n x_1)) fun (x_2 : Mm) => nN [qX (x.fst.p.m.val n x_1)]
    (V.any Int (fun (v : Int) => v = x.fst.p.m.val n x_1) fun (x_3 : Int) => V.br (x_3 == Int.ofNat 0)
    (nN [(12, .lt2 0 1 0 1)]
    (V.need (φ (Rt.mk (Re.mk (Int.ofNat 2) (Int.ofNat 0) (IntKind.i64.wrap ((↑x.fst.p.k : Int) + Int.ofNat 1)) x_2 x.fst.l) fun (e : Nat) => x.fst.st e, x.snd))
    (nN [(1, .eqI 2 2), (1, .eqI 0 0), qE (IntKind.i64.wrap ((↑x.fst.p.k : Int) + Int.ofNat 1)), qE y.W, qE y.L, qE y.C, qE y.T, qE y.D, qE y.H, qE y.sl, qE y.ep, qE y.bm, qE y.qu, qE y.tb, qE nr, qE cr, qE x.fst.l.n, qE x.snd, qE n, qE cap, qE x_2.lk, qE x_2.lc, qE x_2.lo, qE x_2.ln, qE x_2.ct, qE cap, qL n, qF n x_2.g, qE cr, qL nr, qF nr x.fst.st, qE x.snd, qL x.fst.l.n, qF x.fst.l.n x.fst.l.v.k, qF x.fst.l.n x.fst.l.v.w, qF x.fst.l.n x.fst.l.v.t, qF x.fst.l.n x.fst.l.v.o, qF x.fst.l.n x.fst.l.v.l] V.ok)))
    (V.need (Int.ofNat 0 ≤ x_3 ∧ x_3 ≤ Int.ofNat 18446744073709551615)
    (nN [(19, .lt2 0 1 0 1), qE y.W, qE y.L, qE y.C, qE y.T, qE y.D, qE y.H, qE y.sl, qE y.ep, qE y.bm, qE y.qu, qE y.tb, qE w, qE (IntKind.i64.wrap ((↑(Lib.bitLen x_3.toNat) : Int) - Int.ofNat 1))]
    (V.need (Ly.mk y.W y.L y.C y.T y.D y.H y.sl y.ep y.bm y.qu y.tb).small
    (nN [qX (quM (Ly.mk y.W y.L y.C y.T y.D y.H y.sl y.ep y.bm y.qu y.tb) w (IntKind.i64.wrap ((↑(Lib.bitLen x_3.toNat) : Int) - Int.ofNat 1)))]
    (V.any Qu (fun (q : Qu) => q = quM (Ly.mk y.W y.L y.C y.T y.D y.H y.sl y.ep y.bm y.qu y.tb) w (IntKind.i64.wrap ((↑(Lib.bitLen x_3.toNat) : Int) - Int.ofNat 1))) fun (x_4 : Qu) => nN [(4, .lt2 0 1 0 1)]
    (V.need (I (1, XTa.mk (XPo.mk (IntKind.i64.wrap ((↑(Lib.bitLen x_3.toNat) : Int) - Int.ofNat 1)) x_4.t x_4.b x_4.r x_4.c (Int.ofNat 1) (Int.ofNat 0) (Int.ofNat 0) (IntKind.i64.wrap ((↑x.fst.p.k : Int) + Int.ofNat 1)).toNat x_2) x.fst.l x.fst.st (Int.ofNat 0), x.snd))
    (V.need (M - (IntKind.i64.wrap ((↑x.fst.p.k : Int) + Int.ofNat 1)).toNat < M - x.fst.p.k)
    (V.need (IntKind.i64.wrap ((↑x.fst.p.k : Int) + Int.ofNat 1) = (↑(IntKind.i64.wrap ((↑x.fst.p.k : Int) + Int.ofNat 1)).toNat : Int))
    (nN [qE w, qE n, qE cap, qE x_2.lk, qE x_2.lc, qE x_2.lo, qE x_2.ln, qE x_2.ct, qE cap, qL n, qF n x_2.g, qE y.W, qE y.L, qE y.C, qE y.T, qE y.D, qE y.H, qE y.sl, qE y.ep, qE y.bm, qE y.qu, qE y.tb, qE nr, qE cr, qE x.fst.l.n, qE x.snd, qE x.snd, qL x.fst.l.n, qF x.fst.l.n x.fst.l.v.k, qF x.fst.l.n x.fst.l.v.w, qF x.fst.l.n x.fst.l.v.t, qF x.fst.l.n x.fst.l.v.o, qF x.fst.l.n x.fst.l.v.l, qE w, qE (IntKind.i64.wrap ((↑(Lib.bitLen x_3.toNat) : Int) - Int.ofNat 1)), qE x_4.t, qE x_4.b, qE x_4.r, qE x_4.c, (1, .eqI 1 1), (2, .eqI 0 0), qE cr, qL nr, qF nr x.fst.st] V.ok)))))))))))))))
    (V.need (φ (Rt.mk (Re.mk (Int.negSucc 0) (Int.ofNat 0) (↑x.fst.p.k : Int) x.fst.p.m x.fst.l) fun (e : Nat) => x.fst.st e, x.snd))
    (nN [qE (Int.negSucc 0), (1, .eqI 0 0), qE ((↑x.fst.p.k : Int)), qE y.W, qE y.L, qE y.C, qE y.T, qE y.D, qE y.H, qE y.sl, qE y.ep, qE y.bm, qE y.qu, qE y.tb, qE nr, qE cr, qE x.fst.l.n, qE x.snd, qE n, qE cap, qE x.fst.p.m.lk, qE x.fst.p.m.lc, qE x.fst.p.m.lo, qE x.fst.p.m.ln, qE x.fst.p.m.ct, qE cap, qL n, qF n x.fst.p.m.g, qE cr, qL nr, qF nr x.fst.st, qE x.snd, qL x.fst.l.n, qF x.fst.l.n x.fst.l.v.k, qF x.fst.l.n x.fst.l.v.w, qF x.fst.l.n x.fst.l.v.t, qF x.fst.l.n x.fst.l.v.o, qF x.fst.l.n x.fst.l.v.l] V.ok)))
    (V.any Bool (fun (x : Bool) => True) fun (b : Bool) => V.br b
    (V.any (XTa × Nat) (fun (x : XTa × Nat) => I (1, x)) fun (x : XTa × Nat) => V.br (decide ((↑x.fst.p.k : Int) < (↑M : Int)))
    (nN [(6, .lt2 0 1 0 1)]
    (V.br (x.fst.p.ln == Int.ofNat 1)
    (nN [qE x.fst.p.qb, qE n, qE cap, qE x.fst.p.m.lk, qE x.fst.p.m.lc, qE x.fst.p.m.lo, qE x.fst.p.m.ln, qE x.fst.p.m.ct, qE cap, qL n, qF n x.fst.p.m.g, qX (x.fst.p.m.acc n (Int.ofNat 1) x.fst.p.qb (x.fst.p.m.val n x.fst.p.qb))]
    (V.any Mm (fun (m' : Mm) => m' = x.fst.p.m.acc n (Int.ofNat 1) x.fst.p.qb (x.fst.p.m.val n x.fst.p.qb)) fun (x_1 : Mm) => nN [qX (x.fst.p.m.val n x.fst.p.qb)]
    (V.any Int (fun (v : Int) => v = x.fst.p.m.val n x.fst.p.qb) fun (x_2 : Int) => V.need (I (1, XTa.mk (XPo.mk x.fst.p.lv x.fst.p.qt x.fst.p.qb x.fst.p.qr x.fst.p.qc (IntKind.i64.wrap (x.fst.p.ln + Int.ofNat 1)) x_2 x.fst.p.t (IntKind.i64.wrap ((↑x.fst.p.k : Int) + Int.ofNat 1)).toNat x_1) x.fst.l x.fst.st (Int.ofNat 0), x.snd))
    (V.need (M - (IntKind.i64.wrap ((↑x.fst.p.k : Int) + Int.ofNat 1)).toNat < M - x.fst.p.k)
    (V.need (IntKind.i64.wrap ((↑x.fst.p.k : Int) + Int.ofNat 1) = (↑(IntKind.i64.wrap ((↑x.fst.p.k : Int) + Int.ofNat 1)).toNat : Int))
    (nN [qE w, qE n, qE cap, qE x_1.lk, qE x_1.lc, qE x_1.lo, qE x_1.ln, qE x_1.ct, qE cap, qL n, qF n x_1.g, qE y.W, qE y.L, qE y.C, qE y.T, qE y.D, qE y.H, qE y.sl, qE y.ep, qE y.bm, qE y.qu, qE y.tb, qE nr, qE cr, qE x.fst.l.n, qE x.snd, qE x.snd, qL x.fst.l.n, qF x.fst.l.n x.fst.l.v.k, qF x.fst.l.n x.fst.l.v.w, qF x.fst.l.n x.fst.l.v.t, qF x.fst.l.n x.fst.l.v.o, qF x.fst.l.n x.fst.l.v.l, qE w, qE x.fst.p.lv, qE x.fst.p.qt, qE x.fst.p.qb, qE x.fst.p.qr, qE x.fst.p.qc, qE (IntKind.i64.wrap (x.fst.p.ln + Int.ofNat 1)), qE x_2, qE x.fst.p.t, qE cr, qL nr, qF nr x.fst.st] V.ok))))))
    (V.br (x.fst.p.ln == Int.ofNat 2)
    (nN [qE x.fst.p.qt, qE n, qE cap, qE x.fst.p.m.lk, qE x.fst.p.m.lc, qE x.fst.p.m.lo, qE x.fst.p.m.ln, qE x.fst.p.m.ct, qE cap, qL n, qF n x.fst.p.m.g, qX (x.fst.p.m.acc n (Int.ofNat 1) x.fst.p.qt (x.fst.p.m.val n x.fst.p.qt))]
    (V.any Mm (fun (m' : Mm) => m' = x.fst.p.m.acc n (Int.ofNat 1) x.fst.p.qt (x.fst.p.m.val n x.fst.p.qt)) fun (x_1 : Mm) => nN [qX (x.fst.p.m.val n x.fst.p.qt)]
    (V.any Int (fun (v : Int) => v = x.fst.p.m.val n x.fst.p.qt) fun (x_2 : Int) => nN [(6, .lt2 0 1 0 1)]
    (V.br (decide (IntKind.i64.wrap (IntKind.u64.wrap (x.fst.p.b - x_2)) ≤ Int.ofNat 0))
    (nN [(22, .lt2 0 1 0 1), qE w, qE y.W, qE y.bm, (1, .eqI 1 1)]
    (V.need (okAtT w y.W y.bm (Int.ofNat 1))
    (nN [qX (atM w y.W y.bm (Int.ofNat 1))]
    (V.any Int (fun (r : Int) => r = atM w y.W y.bm (Int.ofNat 1)) fun (x_3 : Int) => nN [(22, .lt2 0 1 0 1), qE y.W, qE y.L, qE y.C, qE y.T, qE y.D, qE y.H, qE y.sl, qE y.ep, qE y.bm, qE y.qu, qE y.tb, qE w, qE x.fst.p.lv]
    (V.need (Ly.mk y.W y.L y.C y.T y.D y.H y.sl y.ep y.bm y.qu y.tb).small
    (nN [qX (quM (Ly.mk y.W y.L y.C y.T y.D y.H y.sl y.ep y.bm y.qu y.tb) w x.fst.p.lv)]
    (V.any Qu (fun (q : Qu) => q = quM (Ly.mk y.W y.L y.C y.T y.D y.H y.sl y.ep y.bm y.qu y.tb) w x.fst.p.lv) fun (x_4 : Qu) => nN [(4, .lt2 0 1 0 1)]
    (V.need (I (2, XTa.mk (XPo.mk x.fst.p.lv x_4.t x_4.b x_4.r x_4.c (Int.ofNat 1) (Int.ofNat 0) (Int.ofNat 0) (IntKind.i64.wrap ((↑x.fst.p.k : Int) + Int.ofNat 1)).toNat x_1) x.fst.l x.fst.st (Int.ofNat 0), x.snd))
    (V.need (M - (IntKind.i64.wrap ((↑x.fst.p.k : Int) + Int.ofNat 1)).toNat < M - x.fst.p.k)
    (V.need (IntKind.i64.wrap ((↑x.fst.p.k : Int) + Int.ofNat 1) = (↑(IntKind.i64.wrap ((↑x.fst.p.k : Int) + Int.ofNat 1)).toNat : Int))
    (nN [qE w, qE n, qE cap, qE x_1.lk, qE x_1.lc, qE x_1.lo, qE x_1.ln, qE x_1.ct, qE cap, qL n, qF n x_1.g, qE y.W, qE y.L, qE y.C, qE y.T, qE y.D, qE y.H, qE y.sl, qE y.ep, qE y.bm, qE y.qu, qE y.tb, qE nr, qE cr, qE x.fst.l.n, qE x.snd, qE x.snd, qL x.fst.l.n, qF x.fst.l.n x.fst.l.v.k, qF x.fst.l.n x.fst.l.v.w, qF x.fst.l.n x.fst.l.v.t, qF x.fst.l.n x.fst.l.v.o, qF x.fst.l.n x.fst.l.v.l, qE w, qE x.fst.p.lv]
    (V.need (x_3 = atM w y.W y.bm (Int.ofNat 1))
    (nN [qE x.fst.p.lv, qE x_4.t, qE x_4.b, qE x_4.r, qE x_4.c, (1, .eqI 1 1), (1, .eqI 0 0), qE cr, qL nr, qF nr x.fst.st] V.ok)))))))))))))
    (V.need (I (1, XTa.mk (XPo.mk x.fst.p.lv x.fst.p.qt x.fst.p.qb x.fst.p.qr x.fst.p.qc (IntKind.i64.wrap (x.fst.p.ln + Int.ofNat 1)) x.fst.p.b x_2 (IntKind.i64.wrap ((↑x.fst.p.k : Int) + Int.ofNat 1)).toNat x_1) x.fst.l x.fst.st (Int.ofNat 0), x.snd))
    (V.need (M - (IntKind.i64.wrap ((↑x.fst.p.k : Int) + Int.ofNat 1)).toNat < M - x.fst.p.k)
    (V.need (IntKind.i64.wrap ((↑x.fst.p.k : Int) + Int.ofNat 1) = (↑(IntKind.i64.wrap ((↑x.fst.p.k : Int) + Int.ofNat 1)).toNat : Int))
    (nN [qE w, qE n, qE cap, qE x_1.lk, qE x_1.lc, qE x_1.lo, qE x_1.ln, qE x_1.ct, qE cap, qL n, qF n x_1.g, qE y.W, qE y.L, qE y.C, qE y.T, qE y.D, qE y.H, qE y.sl, qE y.ep, qE y.bm, qE y.qu, qE y.tb, qE nr, qE cr, qE x.fst.l.n, qE x.snd, qE x.snd, qL x.fst.l.n, qF x.fst.l.n x.fst.l.v.k, qF x.fst.l.n x.fst.l.v.w, qF x.fst.l.n x.fst.l.v.t, qF x.fst.l.n x.fst.l.v.o, qF x.fst.l.n x.fst.l.v.l, qE w, qE x.fst.p.lv, qE x.fst.p.qt, qE x.fst.p.qb, qE x.fst.p.qr, qE x.fst.p.qc, qE (IntKind.i64.wrap (x.fst.p.ln + Int.ofNat 1)), qE x.fst.p.b, qE x_2, qE cr, qL nr, qF nr x.fst.st] V.ok))))))))
    (V.br (x.fst.p.ln == Int.ofNat 3)
    (nN [(7, .lt2 0 1 0 1), qE x.fst.p.qb, qE (IntKind.u64.wrap (x.fst.p.b - Int.ofNat 1)), qE n, qE cap, qE x.fst.p.m.lk, qE x.fst.p.m.lc, qE x.fst.p.m.lo, qE x.fst.p.m.ln, qE x.fst.p.m.ct, qE cap, qL n, qF n x.fst.p.m.g, qX (x.fst.p.m.acc n (Int.ofNat 2) x.fst.p.qb (IntKind.u64.wrap (x.fst.p.b - Int.ofNat 1)))]
    (V.any Mm (fun (m' : Mm) => m' = x.fst.p.m.acc n (Int.ofNat 2) x.fst.p.qb (IntKind.u64.wrap (x.fst.p.b - Int.ofNat 1))) fun (x_1 : Mm) => V.need (I (1, XTa.mk (XPo.mk x.fst.p.lv x.fst.p.qt x.fst.p.qb x.fst.p.qr x.fst.p.qc (IntKind.i64.wrap (x.fst.p.ln + Int.ofNat 1)) x.fst.p.b x.fst.p.t (IntKind.i64.wrap ((↑x.fst.p.k : Int) + Int.ofNat 1)).toNat x_1) x.fst.l x.fst.st (Int.ofNat 0), x.snd))
    (V.need (M - (IntKind.i64.wrap ((↑x.fst.p.k : Int) + Int.ofNat 1)).toNat < M - x.fst.p.k)
    (V.need (IntKind.i64.wrap ((↑x.fst.p.k : Int) + Int.ofNat 1) = (↑(IntKind.i64.wrap ((↑x.fst.p.k : Int) + Int.ofNat 1)).toNat : Int))
    (nN [qE w, qE n, qE cap, qE x_1.lk, qE x_1.lc, qE x_1.lo, qE x_1.ln, qE x_1.ct, qE cap, qL n, qF n x_1.g, qE y.W, qE y.L, qE y.C, qE y.T, qE y.D, qE y.H, qE y.sl, qE y.ep, qE y.bm, qE y.qu, qE y.tb, qE nr, qE cr, qE x.fst.l.n, qE x.snd, qE x.snd, qL x.fst.l.n, qF x.fst.l.n x.fst.l.v.k, qF x.fst.l.n x.fst.l.v.w, qF x.fst.l.n x.fst.l.v.t, qF x.fst.l.n x.fst.l.v.o, qF x.fst.l.n x.fst.l.v.l, qE w, qE x.fst.p.lv, qE x.fst.p.qt, qE x.fst.p.qb, qE x.fst.p.qr, qE x.fst.p.qc, qE (IntKind.i64.wrap (x.fst.p.ln + Int.ofNat 1)), qE x.fst.p.b, qE x.fst.p.t, qE cr, qL nr, qF nr x.fst.st] V.ok)))))
    (V.br (x.fst.p.ln == Int.ofNat 4)
    (nN [(7, .lt2 0 1 0 1), qE x.fst.p.qt, qE n, qE cap, qE x.fst.p.m.lk, qE x.fst.p.m.lc, qE x.fst.p.m.lo, qE x.fst.p.m.ln, qE x.fst.p.m.ct, qE cap, qL n, qF n x.fst.p.m.g, qX (x.fst.p.m.acc n (Int.ofNat 1) x.fst.p.qt (x.fst.p.m.val n x.fst.p.qt))]
    (V.any Mm (fun (m' : Mm) => m' = x.fst.p.m.acc n (Int.ofNat 1) x.fst.p.qt (x.fst.p.m.val n x.fst.p.qt)) fun (x_1 : Mm) => nN [qX (x.fst.p.m.val n x.fst.p.qt)]
    (V.any Int (fun (v : Int) => v = x.fst.p.m.val n x.fst.p.qt) fun (x_2 : Int) => nN [(8, .lt2 0 1 0 1)]
    (V.br (decide (IntKind.i64.wrap (IntKind.u64.wrap (IntKind.u64.wrap (x.fst.p.b - Int.ofNat 1) - x_2)) > Int.ofNat 0))
    (V.need (I (1, XTa.mk (XPo.mk x.fst.p.lv x.fst.p.qt x.fst.p.qb x.fst.p.qr x.fst.p.qc (Int.ofNat 5) x.fst.p.b x_2 (IntKind.i64.wrap ((↑x.fst.p.k : Int) + Int.ofNat 1)).toNat x_1) x.fst.l x.fst.st (Int.ofNat 0), x.snd))
    (V.need (M - (IntKind.i64.wrap ((↑x.fst.p.k : Int) + Int.ofNat 1)).toNat < M - x.fst.p.k)
    (V.need (IntKind.i64.wrap ((↑x.fst.p.k : Int) + Int.ofNat 1) = (↑(IntKind.i64.wrap ((↑x.fst.p.k : Int) + Int.ofNat 1)).toNat : Int))
    (nN [qE w, qE n, qE cap, qE x_1.lk, qE x_1.lc, qE x_1.lo, qE x_1.ln, qE x_1.ct, qE cap, qL n, qF n x_1.g, qE y.W, qE y.L, qE y.C, qE y.T, qE y.D, qE y.H, qE y.sl, qE y.ep, qE y.bm, qE y.qu, qE y.tb, qE nr, qE cr, qE x.fst.l.n, qE x.snd, qE x.snd, qL x.fst.l.n, qF x.fst.l.n x.fst.l.v.k, qF x.fst.l.n x.fst.l.v.w, qF x.fst.l.n x.fst.l.v.t, qF x.fst.l.n x.fst.l.v.o, qF x.fst.l.n x.fst.l.v.l, qE w, qE x.fst.p.lv, qE x.fst.p.qt, qE x.fst.p.qb, qE x.fst.p.qr, qE x.fst.p.qc, (1, .eqI 5 5), qE x.fst.p.b, qE x_2, qE cr, qL nr, qF nr x.fst.st] V.ok))))
    (V.br (IntKind.i64.wrap (IntKind.u64.wrap (IntKind.u64.wrap (x.fst.p.b - Int.ofNat 1) - x_2)) == Int.ofNat 0)
    (V.need (I (1, XTa.mk (XPo.mk x.fst.p.lv x.fst.p.qt x.fst.p.qb x.fst.p.qr x.fst.p.qc (Int.ofNat 6) x.fst.p.b x_2 (IntKind.i64.wrap ((↑x.fst.p.k : Int) + Int.ofNat 1)).toNat x_1) x.fst.l x.fst.st (Int.ofNat 0), x.snd))
    (V.need (M - (IntKind.i64.wrap ((↑x.fst.p.k : Int) + Int.ofNat 1)).toNat < M - x.fst.p.k)
    (V.need (IntKind.i64.wrap ((↑x.fst.p.k : Int) + Int.ofNat 1) = (↑(IntKind.i64.wrap ((↑x.fst.p.k : Int) + Int.ofNat 1)).toNat : Int))
    (nN [qE w, qE n, qE cap, qE x_1.lk, qE x_1.lc, qE x_1.lo, qE x_1.ln, qE x_1.ct, qE cap, qL n, qF n x_1.g, qE y.W, qE y.L, qE y.C, qE y.T, qE y.D, qE y.H, qE y.sl, qE y.ep, qE y.bm, qE y.qu, qE y.tb, qE nr, qE cr, qE x.fst.l.n, qE x.snd, qE x.snd, qL x.fst.l.n, qF x.fst.l.n x.fst.l.v.k, qF x.fst.l.n x.fst.l.v.w, qF x.fst.l.n x.fst.l.v.t, qF x.fst.l.n x.fst.l.v.o, qF x.fst.l.n x.fst.l.v.l, qE w, qE x.fst.p.lv, qE x.fst.p.qt, qE x.fst.p.qb, qE x.fst.p.qr, qE x.fst.p.qc, (1, .eqI 6 6), qE x.fst.p.b, qE x_2, qE cr, qL nr, qF nr x.fst.st] V.ok))))
    (V.need (I (1, XTa.mk (XPo.mk x.fst.p.lv x.fst.p.qt x.fst.p.qb x.fst.p.qr x.fst.p.qc (Int.ofNat 9) x.fst.p.b x_2 (IntKind.i64.wrap ((↑x.fst.p.k : Int) + Int.ofNat 1)).toNat x_1) x.fst.l x.fst.st (Int.ofNat 0), x.snd))
    (V.need (M - (IntKind.i64.wrap ((↑x.fst.p.k : Int) + Int.ofNat 1)).toNat < M - x.fst.p.k)
    (V.need (IntKind.i64.wrap ((↑x.fst.p.k : Int) + Int.ofNat 1) = (↑(IntKind.i64.wrap ((↑x.fst.p.k : Int) + Int.ofNat 1)).toNat : Int))
    (nN [qE w, qE n, qE cap, qE x_1.lk, qE x_1.lc, qE x_1.lo, qE x_1.ln, qE x_1.ct, qE cap, qL n, qF n x_1.g, qE y.W, qE y.L, qE y.C, qE y.T, qE y.D, qE y.H, qE y.sl, qE y.ep, qE y.bm, qE y.qu, qE y.tb, qE nr, qE cr, qE x.fst.l.n, qE x.snd, qE x.snd, qL x.fst.l.n, qF x.fst.l.n x.fst.l.v.k, qF x.fst.l.n x.fst.l.v.w, qF x.fst.l.n x.fst.l.v.t, qF x.fst.l.n x.fst.l.v.o, qF x.fst.l.n x.fst.l.v.l, qE w, qE x.fst.p.lv, qE x.fst.p.qt, qE x.fst.p.qb, qE x.fst.p.qr, qE x.fst.p.qc, (1, .eqI 9 9), qE x.fst.p.b, qE x_2, qE cr, qL nr, qF nr x.fst.st] V.ok)))))))))
    (V.br (x.fst.p.ln == Int.ofNat 5)
    (V.br (x.fst.p.ln == Int.ofNat 5)
    (nN [(11, .lt2 0 1 0 1), qE x.fst.p.qt, qE x.fst.p.qb, qE x.fst.p.qr, qE x.fst.p.qc, qE (IntKind.u64.wrap (x.fst.p.b - Int.ofNat 1))]
    (V.need (x.fst.p.qc ≤ Int.ofNat 9223372036854775807)
    (nN [qX (ringC x.fst.p.qr x.fst.p.qc (IntKind.u64.wrap (x.fst.p.b - Int.ofNat 1)))]
    (V.any Int (fun (r : Int) => r = ringC x.fst.p.qr x.fst.p.qc (IntKind.u64.wrap (x.fst.p.b - Int.ofNat 1))) fun (x_1 : Int) => nN [qE x_1, qE n, qE cap, qE x.fst.p.m.lk, qE x.fst.p.m.lc, qE x.fst.p.m.lo, qE x.fst.p.m.ln, qE x.fst.p.m.ct, qE cap, qL n, qF n x.fst.p.m.g, qX (x.fst.p.m.acc n (Int.ofNat 1) x_1 (x.fst.p.m.val n x_1))]
    (V.any Mm (fun (m' : Mm) => m' = x.fst.p.m.acc n (Int.ofNat 1) x_1 (x.fst.p.m.val n x_1)) fun (x_2 : Mm) => nN [qX (x.fst.p.m.val n x_1)]
    (V.any Int (fun (v : Int) => v = x.fst.p.m.val n x_1) fun (x_3 : Int) => nN [(12, .lt2 0 1 0 1)]
    (V.need (I (3, XTa.mk (noPo (IntKind.i64.wrap ((↑x.fst.p.k : Int) + Int.ofNat 1)).toNat x_2) x.fst.l x.fst.st (IntKind.i64.wrap x_3), x.snd))
    (V.need (M - (IntKind.i64.wrap ((↑x.fst.p.k : Int) + Int.ofNat 1)).toNat < M - x.fst.p.k)
    (V.need (IntKind.i64.wrap ((↑x.fst.p.k : Int) + Int.ofNat 1) = (↑(IntKind.i64.wrap ((↑x.fst.p.k : Int) + Int.ofNat 1)).toNat : Int))
    (nN [qE w, qE n, qE cap, qE x_2.lk, qE x_2.lc, qE x_2.lo, qE x_2.ln, qE x_2.ct, qE cap, qL n, qF n x_2.g, qE y.W, qE y.L, qE y.C, qE y.T, qE y.D, qE y.H, qE y.sl, qE y.ep, qE y.bm, qE y.qu, qE y.tb, qE nr, qE cr, qE x.fst.l.n, qE x.snd, qE x.snd, qL x.fst.l.n, qF x.fst.l.n x.fst.l.v.k, qF x.fst.l.n x.fst.l.v.w, qF x.fst.l.n x.fst.l.v.t, qF x.fst.l.n x.fst.l.v.o, qF x.fst.l.n x.fst.l.v.l, qE w, qE (IntKind.i64.wrap x_3), qE cr, qL nr, qF nr x.fst.st] V.ok))))))))))
    (V.br (x.fst.p.ln == Int.ofNat 6)
    (nN [(10, .lt2 0 1 0 1), qE x.fst.p.qt, qE x.fst.p.t, qE (IntKind.u64.wrap (x.fst.p.t + Int.ofNat 1)), qE n, qE cap, qE x.fst.p.m.lk, qE x.fst.p.m.lc, qE x.fst.p.m.lo, qE x.fst.p.m.ln, qE x.fst.p.m.ct, qE cap, qL n, qF n x.fst.p.m.g, qX (x.fst.p.m.acc n (Int.ofNat 3) x.fst.p.qt (casV (x.fst.p.m.hit n x.fst.p.qt x.fst.p.t) (x.fst.p.m.val n x.fst.p.qt) (IntKind.u64.wrap (x.fst.p.t + Int.ofNat 1))))]
    (V.any Mm (fun (m' : Mm) => m' = x.fst.p.m.acc n (Int.ofNat 3) x.fst.p.qt (casV (x.fst.p.m.hit n x.fst.p.qt x.fst.p.t) (x.fst.p.m.val n x.fst.p.qt) (IntKind.u64.wrap (x.fst.p.t + Int.ofNat 1)))) fun (x_1 : Mm) => nN [qX (x.fst.p.m.hit n x.fst.p.qt x.fst.p.t)]
    (V.any Bool (fun (v : Bool) => v = x.fst.p.m.hit n x.fst.p.qt x.fst.p.t) fun (x_2 : Bool) => V.br (!x_2)
    (V.need (I (1, XTa.mk (XPo.mk x.fst.p.lv x.fst.p.qt x.fst.p.qb x.fst.p.qr x.fst.p.qc (Int.ofNat 9) x.fst.p.b x.fst.p.t (IntKind.i64.wrap ((↑x.fst.p.k : Int) + Int.ofNat 1)).toNat x_1) x.fst.l x.fst.st (Int.ofNat 0), x.snd))
    (V.need (M - (IntKind.i64.wrap ((↑x.fst.p.k : Int) + Int.ofNat 1)).toNat < M - x.fst.p.k)
    (V.need (IntKind.i64.wrap ((↑x.fst.p.k : Int) + Int.ofNat 1) = (↑(IntKind.i64.wrap ((↑x.fst.p.k : Int) + Int.ofNat 1)).toNat : Int))
    (nN [qE w, qE n, qE cap, qE x_1.lk, qE x_1.lc, qE x_1.lo, qE x_1.ln, qE x_1.ct, qE cap, qL n, qF n x_1.g, qE y.W, qE y.L, qE y.C, qE y.T, qE y.D, qE y.H, qE y.sl, qE y.ep, qE y.bm, qE y.qu, qE y.tb, qE nr, qE cr, qE x.fst.l.n, qE x.snd, qE x.snd, qL x.fst.l.n, qF x.fst.l.n x.fst.l.v.k, qF x.fst.l.n x.fst.l.v.w, qF x.fst.l.n x.fst.l.v.t, qF x.fst.l.n x.fst.l.v.o, qF x.fst.l.n x.fst.l.v.l, qE w, qE x.fst.p.lv, qE x.fst.p.qt, qE x.fst.p.qb, qE x.fst.p.qr, qE x.fst.p.qc, (1, .eqI 9 9), qE x.fst.p.b, qE x.fst.p.t, qE cr, qL nr, qF nr x.fst.st] V.ok))))
    (V.need (I (1, XTa.mk (XPo.mk x.fst.p.lv x.fst.p.qt x.fst.p.qb x.fst.p.qr x.fst.p.qc (IntKind.i64.wrap (x.fst.p.ln + Int.ofNat 1)) x.fst.p.b x.fst.p.t (IntKind.i64.wrap ((↑x.fst.p.k : Int) + Int.ofNat 1)).toNat x_1) x.fst.l x.fst.st (Int.ofNat 0), x.snd))
    (V.need (M - (IntKind.i64.wrap ((↑x.fst.p.k : Int) + Int.ofNat 1)).toNat < M - x.fst.p.k)
    (V.need (IntKind.i64.wrap ((↑x.fst.p.k : Int) + Int.ofNat 1) = (↑(IntKind.i64.wrap ((↑x.fst.p.k : Int) + Int.ofNat 1)).toNat : Int))
    (nN [qE w, qE n, qE cap, qE x_1.lk, qE x_1.lc, qE x_1.lo, qE x_1.ln, qE x_1.ct, qE cap, qL n, qF n x_1.g, qE y.W, qE y.L, qE y.C, qE y.T, qE y.D, qE y.H, qE y.sl, qE y.ep, qE y.bm, qE y.qu, qE y.tb, qE nr, qE cr, qE x.fst.l.n, qE x.snd, qE x.snd, qL x.fst.l.n, qF x.fst.l.n x.fst.l.v.k, qF x.fst.l.n x.fst.l.v.w, qF x.fst.l.n x.fst.l.v.t, qF x.fst.l.n x.fst.l.v.o, qF x.fst.l.n x.fst.l.v.l, qE w, qE x.fst.p.lv, qE x.fst.p.qt, qE x.fst.p.qb, qE x.fst.p.qr, qE x.fst.p.qc, qE (IntKind.i64.wrap (x.fst.p.ln + Int.ofNat 1)), qE x.fst.p.b, qE x.fst.p.t, qE cr, qL nr, qF nr x.fst.st] V.ok)))))))
    (V.br (x.fst.p.ln == Int.ofNat 7)
    (nN [(7, .lt2 0 1 0 1), qE x.fst.p.qb, qE x.fst.p.b, qE n, qE cap, qE x.fst.p.m.lk, qE x.fst.p.m.lc, qE x.fst.p.m.lo, qE x.fst.p.m.ln, qE x.fst.p.m.ct, qE cap, qL n, qF n x.fst.p.m.g, qX (x.fst.p.m.acc n (Int.ofNat 2) x.fst.p.qb x.fst.p.b)]
    (V.any Mm (fun (m' : Mm) => m' = x.fst.p.m.acc n (Int.ofNat 2) x.fst.p.qb x.fst.p.b) fun (x_1 : Mm) => V.need (I (1, XTa.mk (XPo.mk x.fst.p.lv x.fst.p.qt x.fst.p.qb x.fst.p.qr x.fst.p.qc (IntKind.i64.wrap (x.fst.p.ln + Int.ofNat 1)) x.fst.p.b x.fst.p.t (IntKind.i64.wrap ((↑x.fst.p.k : Int) + Int.ofNat 1)).toNat x_1) x.fst.l x.fst.st (Int.ofNat 0), x.snd))
    (V.need (M - (IntKind.i64.wrap ((↑x.fst.p.k : Int) + Int.ofNat 1)).toNat < M - x.fst.p.k)
    (V.need (IntKind.i64.wrap ((↑x.fst.p.k : Int) + Int.ofNat 1) = (↑(IntKind.i64.wrap ((↑x.fst.p.k : Int) + Int.ofNat 1)).toNat : Int))
    (nN [qE w, qE n, qE cap, qE x_1.lk, qE x_1.lc, qE x_1.lo, qE x_1.ln, qE x_1.ct, qE cap, qL n, qF n x_1.g, qE y.W, qE y.L, qE y.C, qE y.T, qE y.D, qE y.H, qE y.sl, qE y.ep, qE y.bm, qE y.qu, qE y.tb, qE nr, qE cr, qE x.fst.l.n, qE x.snd, qE x.snd, qL x.fst.l.n, qF x.fst.l.n x.fst.l.v.k, qF x.fst.l.n x.fst.l.v.w, qF x.fst.l.n x.fst.l.v.t, qF x.fst.l.n x.fst.l.v.o, qF x.fst.l.n x.fst.l.v.l, qE w, qE x.fst.p.lv, qE x.fst.p.qt, qE x.fst.p.qb, qE x.fst.p.qr, qE x.fst.p.qc, qE (IntKind.i64.wrap (x.fst.p.ln + Int.ofNat 1)), qE x.fst.p.b, qE x.fst.p.t, qE cr, qL nr, qF nr x.fst.st] V.ok)))))
    (nN [(7, .lt2 0 1 0 1), qE x.fst.p.qb, qE x.fst.p.b, qE n, qE cap, qE x.fst.p.m.lk, qE x.fst.p.m.lc, qE x.fst.p.m.lo, qE x.fst.p.m.ln, qE x.fst.p.m.ct, qE cap, qL n, qF n x.fst.p.m.g, qX (x.fst.p.m.acc n (Int.ofNat 2) x.fst.p.qb x.fst.p.b)]
    (V.any Mm (fun (m' : Mm) => m' = x.fst.p.m.acc n (Int.ofNat 2) x.fst.p.qb x.fst.p.b) fun (x_1 : Mm) => nN [(22, .lt2 0 1 0 1), qE w, qE y.W, qE y.bm, (1, .eqI 1 1)]
    (V.need (okAtT w y.W y.bm (Int.ofNat 1))
    (nN [qX (atM w y.W y.bm (Int.ofNat 1))]
    (V.any Int (fun (r : Int) => r = atM w y.W y.bm (Int.ofNat 1)) fun (x_2 : Int) => nN [(22, .lt2 0 1 0 1), qE y.W, qE y.L, qE y.C, qE y.T, qE y.D, qE y.H, qE y.sl, qE y.ep, qE y.bm, qE y.qu, qE y.tb, qE w, qE x.fst.p.lv]
    (V.need (Ly.mk y.W y.L y.C y.T y.D y.H y.sl y.ep y.bm y.qu y.tb).small
    (nN [qX (quM (Ly.mk y.W y.L y.C y.T y.D y.H y.sl y.ep y.bm y.qu y.tb) w x.fst.p.lv)]
    (V.any Qu (fun (q : Qu) => q = quM (Ly.mk y.W y.L y.C y.T y.D y.H y.sl y.ep y.bm y.qu y.tb) w x.fst.p.lv) fun (x_3 : Qu) => nN [(4, .lt2 0 1 0 1)]
    (V.need (I (2, XTa.mk (XPo.mk x.fst.p.lv x_3.t x_3.b x_3.r x_3.c (Int.ofNat 1) (Int.ofNat 0) (Int.ofNat 0) (IntKind.i64.wrap ((↑x.fst.p.k : Int) + Int.ofNat 1)).toNat x_1) x.fst.l x.fst.st (Int.ofNat 0), x.snd))
    (V.need (M - (IntKind.i64.wrap ((↑x.fst.p.k : Int) + Int.ofNat 1)).toNat < M - x.fst.p.k)
    (V.need (IntKind.i64.wrap ((↑x.fst.p.k : Int) + Int.ofNat 1) = (↑(IntKind.i64.wrap ((↑x.fst.p.k : Int) + Int.ofNat 1)).toNat : Int))
    (nN [qE w, qE n, qE cap, qE x_1.lk, qE x_1.lc, qE x_1.lo, qE x_1.ln, qE x_1.ct, qE cap, qL n, qF n x_1.g, qE y.W, qE y.L, qE y.C, qE y.T, qE y.D, qE y.H, qE y.sl, qE y.ep, qE y.bm, qE y.qu, qE y.tb, qE nr, qE cr, qE x.fst.l.n, qE x.snd, qE x.snd, qL x.fst.l.n, qF x.fst.l.n x.fst.l.v.k, qF x.fst.l.n x.fst.l.v.w, qF x.fst.l.n x.fst.l.v.t, qF x.fst.l.n x.fst.l.v.o, qF x.fst.l.n x.fst.l.v.l, qE w, qE x.fst.p.lv]
    (V.need (x_2 = atM w y.W y.bm (Int.ofNat 1))
    (nN [qE x.fst.p.lv, qE x_3.t, qE x_3.b, qE x_3.r, qE x_3.c, (1, .eqI 1 1), (1, .eqI 0 0), qE cr, qL nr, qF nr x.fst.st] V.ok)))))))))))))))))
    (V.br (x.fst.p.ln == Int.ofNat 8)
    (nN [(11, .lt2 0 1 0 1), qE x.fst.p.qt, qE x.fst.p.qb, qE x.fst.p.qr, qE x.fst.p.qc, qE (IntKind.u64.wrap (x.fst.p.b - Int.ofNat 1))]
    (V.need (x.fst.p.qc ≤ Int.ofNat 9223372036854775807)
    (nN [qX (ringC x.fst.p.qr x.fst.p.qc (IntKind.u64.wrap (x.fst.p.b - Int.ofNat 1)))]
    (V.any Int (fun (r : Int) => r = ringC x.fst.p.qr x.fst.p.qc (IntKind.u64.wrap (x.fst.p.b - Int.ofNat 1))) fun (x_1 : Int) => nN [qE x_1, qE n, qE cap, qE x.fst.p.m.lk, qE x.fst.p.m.lc, qE x.fst.p.m.lo, qE x.fst.p.m.ln, qE x.fst.p.m.ct, qE cap, qL n, qF n x.fst.p.m.g, qX (x.fst.p.m.acc n (Int.ofNat 1) x_1 (x.fst.p.m.val n x_1))]
    (V.any Mm (fun (m' : Mm) => m' = x.fst.p.m.acc n (Int.ofNat 1) x_1 (x.fst.p.m.val n x_1)) fun (x_2 : Mm) => nN [qX (x.fst.p.m.val n x_1)]
    (V.any Int (fun (v : Int) => v = x.fst.p.m.val n x_1) fun (x_3 : Int) => nN [(12, .lt2 0 1 0 1)]
    (V.need (I (3, XTa.mk (noPo (IntKind.i64.wrap ((↑x.fst.p.k : Int) + Int.ofNat 1)).toNat x_2) x.fst.l x.fst.st (IntKind.i64.wrap x_3), x.snd))
    (V.need (M - (IntKind.i64.wrap ((↑x.fst.p.k : Int) + Int.ofNat 1)).toNat < M - x.fst.p.k)
    (V.need (IntKind.i64.wrap ((↑x.fst.p.k : Int) + Int.ofNat 1) = (↑(IntKind.i64.wrap ((↑x.fst.p.k : Int) + Int.ofNat 1)).toNat : Int))
    (nN [qE w, qE n, qE cap, qE x_2.lk, qE x_2.lc, qE x_2.lo, qE x_2.ln, qE x_2.ct, qE cap, qL n, qF n x_2.g, qE y.W, qE y.L, qE y.C, qE y.T, qE y.D, qE y.H, qE y.sl, qE y.ep, qE y.bm, qE y.qu, qE y.tb, qE nr, qE cr, qE x.fst.l.n, qE x.snd, qE x.snd, qL x.fst.l.n, qF x.fst.l.n x.fst.l.v.k, qF x.fst.l.n x.fst.l.v.w, qF x.fst.l.n x.fst.l.v.t, qF x.fst.l.n x.fst.l.v.o, qF x.fst.l.n x.fst.l.v.l, qE w, qE (IntKind.i64.wrap x_3), qE cr, qL nr, qF nr x.fst.st] V.ok))))))))))
    (V.br (x.fst.p.ln == Int.ofNat 6)
    (nN [(10, .lt2 0 1 0 1), qE x.fst.p.qt, qE x.fst.p.t, qE (IntKind.u64.wrap (x.fst.p.t + Int.ofNat 1)), qE n, qE cap, qE x.fst.p.m.lk, qE x.fst.p.m.lc, qE x.fst.p.m.lo, qE x.fst.p.m.ln, qE x.fst.p.m.ct, qE cap, qL n, qF n x.fst.p.m.g, qX (x.fst.p.m.acc n (Int.ofNat 3) x.fst.p.qt (casV (x.fst.p.m.hit n x.fst.p.qt x.fst.p.t) (x.fst.p.m.val n x.fst.p.qt) (IntKind.u64.wrap (x.fst.p.t + Int.ofNat 1))))]
    (V.any Mm (fun (m' : Mm) => m' = x.fst.p.m.acc n (Int.ofNat 3) x.fst.p.qt (casV (x.fst.p.m.hit n x.fst.p.qt x.fst.p.t) (x.fst.p.m.val n x.fst.p.qt) (IntKind.u64.wrap (x.fst.p.t + Int.ofNat 1)))) fun (x_1 : Mm) => nN [qX (x.fst.p.m.hit n x.fst.p.qt x.fst.p.t)]
    (V.any Bool (fun (v : Bool) => v = x.fst.p.m.hit n x.fst.p.qt x.fst.p.t) fun (x_2 : Bool) => V.br (!x_2)
    (V.need (I (1, XTa.mk (XPo.mk x.fst.p.lv x.fst.p.qt x.fst.p.qb x.fst.p.qr x.fst.p.qc (Int.ofNat 9) x.fst.p.b x.fst.p.t (IntKind.i64.wrap ((↑x.fst.p.k : Int) + Int.ofNat 1)).toNat x_1) x.fst.l x.fst.st (Int.ofNat 0), x.snd))
    (V.need (M - (IntKind.i64.wrap ((↑x.fst.p.k : Int) + Int.ofNat 1)).toNat < M - x.fst.p.k)
    (V.need (IntKind.i64.wrap ((↑x.fst.p.k : Int) + Int.ofNat 1) = (↑(IntKind.i64.wrap ((↑x.fst.p.k : Int) + Int.ofNat 1)).toNat : Int))
    (nN [qE w, qE n, qE cap, qE x_1.lk, qE x_1.lc, qE x_1.lo, qE x_1.ln, qE x_1.ct, qE cap, qL n, qF n x_1.g, qE y.W, qE y.L, qE y.C, qE y.T, qE y.D, qE y.H, qE y.sl, qE y.ep, qE y.bm, qE y.qu, qE y.tb, qE nr, qE cr, qE x.fst.l.n, qE x.snd, qE x.snd, qL x.fst.l.n, qF x.fst.l.n x.fst.l.v.k, qF x.fst.l.n x.fst.l.v.w, qF x.fst.l.n x.fst.l.v.t, qF x.fst.l.n x.fst.l.v.o, qF x.fst.l.n x.fst.l.v.l, qE w, qE x.fst.p.lv, qE x.fst.p.qt, qE x.fst.p.qb, qE x.fst.p.qr, qE x.fst.p.qc, (1, .eqI 9 9), qE x.fst.p.b, qE x.fst.p.t, qE cr, qL nr, qF nr x.fst.st] V.ok))))
    (V.need (I (1, XTa.mk (XPo.mk x.fst.p.lv x.fst.p.qt x.fst.p.qb x.fst.p.qr x.fst.p.qc (IntKind.i64.wrap (x.fst.p.ln + Int.ofNat 1)) x.fst.p.b x.fst.p.t (IntKind.i64.wrap ((↑x.fst.p.k : Int) + Int.ofNat 1)).toNat x_1) x.fst.l x.fst.st (Int.ofNat 0), x.snd))
    (V.need (M - (IntKind.i64.wrap ((↑x.fst.p.k : Int) + Int.ofNat 1)).toNat < M - x.fst.p.k)
    (V.need (IntKind.i64.wrap ((↑x.fst.p.k : Int) + Int.ofNat 1) = (↑(IntKind.i64.wrap ((↑x.fst.p.k : Int) + Int.ofNat 1)).toNat : Int))
    (nN [qE w, qE n, qE cap, qE x_1.lk, qE x_1.lc, qE x_1.lo, qE x_1.ln, qE x_1.ct, qE cap, qL n, qF n x_1.g, qE y.W, qE y.L, qE y.C, qE y.T, qE y.D, qE y.H, qE y.sl, qE y.ep, qE y.bm, qE y.qu, qE y.tb, qE nr, qE cr, qE x.fst.l.n, qE x.snd, qE x.snd, qL x.fst.l.n, qF x.fst.l.n x.fst.l.v.k, qF x.fst.l.n x.fst.l.v.w, qF x.fst.l.n x.fst.l.v.t, qF x.fst.l.n x.fst.l.v.o, qF x.fst.l.n x.fst.l.v.l, qE w, qE x.fst.p.lv, qE x.fst.p.qt, qE x.fst.p.qb, qE x.fst.p.qr, qE x.fst.p.qc, qE (IntKind.i64.wrap (x.fst.p.ln + Int.ofNat 1)), qE x.fst.p.b, qE x.fst.p.t, qE cr, qL nr, qF nr x.fst.st] V.ok)))))))
    (V.br (x.fst.p.ln == Int.ofNat 7)
    (nN [(7, .lt2 0 1 0 1), qE x.fst.p.qb, qE x.fst.p.b, qE n, qE cap, qE x.fst.p.m.lk, qE x.fst.p.m.lc, qE x.fst.p.m.lo, qE x.fst.p.m.ln, qE x.fst.p.m.ct, qE cap, qL n, qF n x.fst.p.m.g, qX (x.fst.p.m.acc n (Int.ofNat 2) x.fst.p.qb x.fst.p.b)]
    (V.any Mm (fun (m' : Mm) => m' = x.fst.p.m.acc n (Int.ofNat 2) x.fst.p.qb x.fst.p.b) fun (x_1 : Mm) => V.need (I (1, XTa.mk (XPo.mk x.fst.p.lv x.fst.p.qt x.fst.p.qb x.fst.p.qr x.fst.p.qc (IntKind.i64.wrap (x.fst.p.ln + Int.ofNat 1)) x.fst.p.b x.fst.p.t (IntKind.i64.wrap ((↑x.fst.p.k : Int) + Int.ofNat 1)).toNat x_1) x.fst.l x.fst.st (Int.ofNat 0), x.snd))
    (V.need (M - (IntKind.i64.wrap ((↑x.fst.p.k : Int) + Int.ofNat 1)).toNat < M - x.fst.p.k)
    (V.need (IntKind.i64.wrap ((↑x.fst.p.k : Int) + Int.ofNat 1) = (↑(IntKind.i64.wrap ((↑x.fst.p.k : Int) + Int.ofNat 1)).toNat : Int))
    (nN [qE w, qE n, qE cap, qE x_1.lk, qE x_1.lc, qE x_1.lo, qE x_1.ln, qE x_1.ct, qE cap, qL n, qF n x_1.g, qE y.W, qE y.L, qE y.C, qE y.T, qE y.D, qE y.H, qE y.sl, qE y.ep, qE y.bm, qE y.qu, qE y.tb, qE nr, qE cr, qE x.fst.l.n, qE x.snd, qE x.snd, qL x.fst.l.n, qF x.fst.l.n x.fst.l.v.k, qF x.fst.l.n x.fst.l.v.w, qF x.fst.l.n x.fst.l.v.t, qF x.fst.l.n x.fst.l.v.o, qF x.fst.l.n x.fst.l.v.l, qE w, qE x.fst.p.lv, qE x.fst.p.qt, qE x.fst.p.qb, qE x.fst.p.qr, qE x.fst.p.qc, qE (IntKind.i64.wrap (x.fst.p.ln + Int.ofNat 1)), qE x.fst.p.b, qE x.fst.p.t, qE cr, qL nr, qF nr x.fst.st] V.ok)))))
    (nN [(7, .lt2 0 1 0 1), qE x.fst.p.qb, qE x.fst.p.b, qE n, qE cap, qE x.fst.p.m.lk, qE x.fst.p.m.lc, qE x.fst.p.m.lo, qE x.fst.p.m.ln, qE x.fst.p.m.ct, qE cap, qL n, qF n x.fst.p.m.g, qX (x.fst.p.m.acc n (Int.ofNat 2) x.fst.p.qb x.fst.p.b)]
    (V.any Mm (fun (m' : Mm) => m' = x.fst.p.m.acc n (Int.ofNat 2) x.fst.p.qb x.fst.p.b) fun (x_1 : Mm) => nN [(22, .lt2 0 1 0 1), qE w, qE y.W, qE y.bm, (1, .eqI 1 1)]
    (V.need (okAtT w y.W y.bm (Int.ofNat 1))
    (nN [qX (atM w y.W y.bm (Int.ofNat 1))]
    (V.any Int (fun (r : Int) => r = atM w y.W y.bm (Int.ofNat 1)) fun (x_2 : Int) => nN [(22, .lt2 0 1 0 1), qE y.W, qE y.L, qE y.C, qE y.T, qE y.D, qE y.H, qE y.sl, qE y.ep, qE y.bm, qE y.qu, qE y.tb, qE w, qE x.fst.p.lv]
    (V.need (Ly.mk y.W y.L y.C y.T y.D y.H y.sl y.ep y.bm y.qu y.tb).small
    (nN [qX (quM (Ly.mk y.W y.L y.C y.T y.D y.H y.sl y.ep y.bm y.qu y.tb) w x.fst.p.lv)]
    (V.any Qu (fun (q : Qu) => q = quM (Ly.mk y.W y.L y.C y.T y.D y.H y.sl y.ep y.bm y.qu y.tb) w x.fst.p.lv) fun (x_3 : Qu) => nN [(4, .lt2 0 1 0 1)]
    (V.need (I (2, XTa.mk (XPo.mk x.fst.p.lv x_3.t x_3.b x_3.r x_3.c (Int.ofNat 1) (Int.ofNat 0) (Int.ofNat 0) (IntKind.i64.wrap ((↑x.fst.p.k : Int) + Int.ofNat 1)).toNat x_1) x.fst.l x.fst.st (Int.ofNat 0), x.snd))
    (V.need (M - (IntKind.i64.wrap ((↑x.fst.p.k : Int) + Int.ofNat 1)).toNat < M - x.fst.p.k)
    (V.need (IntKind.i64.wrap ((↑x.fst.p.k : Int) + Int.ofNat 1) = (↑(IntKind.i64.wrap ((↑x.fst.p.k : Int) + Int.ofNat 1)).toNat : Int))
    (nN [qE w, qE n, qE cap, qE x_1.lk, qE x_1.lc, qE x_1.lo, qE x_1.ln, qE x_1.ct, qE cap, qL n, qF n x_1.g, qE y.W, qE y.L, qE y.C, qE y.T, qE y.D, qE y.H, qE y.sl, qE y.ep, qE y.bm, qE y.qu, qE y.tb, qE nr, qE cr, qE x.fst.l.n, qE x.snd, qE x.snd, qL x.fst.l.n, qF x.fst.l.n x.fst.l.v.k, qF x.fst.l.n x.fst.l.v.w, qF x.fst.l.n x.fst.l.v.t, qF x.fst.l.n x.fst.l.v.o, qF x.fst.l.n x.fst.l.v.l, qE w, qE x.fst.p.lv]
    (V.need (x_2 = atM w y.W y.bm (Int.ofNat 1))
    (nN [qE x.fst.p.lv, qE x_3.t, qE x_3.b, qE x_3.r, qE x_3.c, (1, .eqI 1 1), (1, .eqI 0 0), qE cr, qL nr, qF nr x.fst.st] V.ok)))))))))))))))))))))))
    (V.need (φ (Rt.mk (Re.mk (Int.negSucc 0) (Int.ofNat 0) (↑x.fst.p.k : Int) x.fst.p.m x.fst.l) fun (e : Nat) => x.fst.st e, x.snd))
    (nN [qE (Int.negSucc 0), (1, .eqI 0 0), qE ((↑x.fst.p.k : Int)), qE y.W, qE y.L, qE y.C, qE y.T, qE y.D, qE y.H, qE y.sl, qE y.ep, qE y.bm, qE y.qu, qE y.tb, qE nr, qE cr, qE x.fst.l.n, qE x.snd, qE n, qE cap, qE x.fst.p.m.lk, qE x.fst.p.m.lc, qE x.fst.p.m.lo, qE x.fst.p.m.ln, qE x.fst.p.m.ct, qE cap, qL n, qF n x.fst.p.m.g, qE cr, qL nr, qF nr x.fst.st, qE x.snd, qL x.fst.l.n, qF x.fst.l.n x.fst.l.v.k, qF x.fst.l.n x.fst.l.v.w, qF x.fst.l.n x.fst.l.v.t, qF x.fst.l.n x.fst.l.v.o, qF x.fst.l.n x.fst.l.v.l] V.ok)))
    (V.any Bool (fun (x : Bool) => True) fun (b : Bool) => V.br b
    (V.any (XTa × Nat) (fun (x : XTa × Nat) => I (2, x)) fun (x : XTa × Nat) => V.br (decide ((↑x.fst.p.k : Int) < (↑M : Int)))
    (nN [qE x.fst.p.lv]
    (V.need True
    (nN [qX (bitM x.fst.p.lv)]
    (V.any Int (fun (r : Int) => r = bitM x.fst.p.lv) fun (x_1 : Int) => V.br (x.fst.p.ln == Int.ofNat 1)
    (nN [(6, .lt2 0 1 0 1), qE (atM w y.W y.bm (Int.ofNat 1))]
    (V.need (bits BinOp.xor IntKind.u64 (if IntKind.u64.signed = true then -Int.ofNat 1 else IntKind.u64.max) x_1 = bits BinOp.xor IntKind.u64 (if IntKind.u64.signed = true then -Int.ofNat 1 else IntKind.u64.max) x_1)
    (nN [qE n, qE cap, qE x.fst.p.m.lk, qE x.fst.p.m.lc, qE x.fst.p.m.lo, qE x.fst.p.m.ln, qE x.fst.p.m.ct, qE cap, qL n, qF n x.fst.p.m.g, qX (x.fst.p.m.acc n (Int.ofNat 5) (atM w y.W y.bm (Int.ofNat 1)) (bits BinOp.and IntKind.u64 (x.fst.p.m.val n (atM w y.W y.bm (Int.ofNat 1))) (bits BinOp.xor IntKind.u64 (if IntKind.u64.signed = true then -Int.ofNat 1 else IntKind.u64.max) x_1)))]
    (V.any Mm (fun (m' : Mm) => m' = x.fst.p.m.acc n (Int.ofNat 5) (atM w y.W y.bm (Int.ofNat 1)) (bits BinOp.and IntKind.u64 (x.fst.p.m.val n (atM w y.W y.bm (Int.ofNat 1))) (bits BinOp.xor IntKind.u64 (if IntKind.u64.signed = true then -Int.ofNat 1 else IntKind.u64.max) x_1))) fun (x_2 : Mm) => nN [qX (x.fst.p.m.val n (atM w y.W y.bm (Int.ofNat 1)))]
    (V.any Int (fun (v : Int) => v = x.fst.p.m.val n (atM w y.W y.bm (Int.ofNat 1))) fun (x_3 : Int) => V.need (I (2, XTa.mk (XPo.mk x.fst.p.lv x.fst.p.qt x.fst.p.qb x.fst.p.qr x.fst.p.qc (IntKind.i64.wrap (x.fst.p.ln + Int.ofNat 1)) x.fst.p.b (Int.ofNat 0) (IntKind.i64.wrap ((↑x.fst.p.k : Int) + Int.ofNat 1)).toNat x_2) x.fst.l x.fst.st (Int.ofNat 0), x.snd))
    (V.need (M - (IntKind.i64.wrap ((↑x.fst.p.k : Int) + Int.ofNat 1)).toNat < M - x.fst.p.k)
    (V.need (IntKind.i64.wrap ((↑x.fst.p.k : Int) + Int.ofNat 1) = (↑(IntKind.i64.wrap ((↑x.fst.p.k : Int) + Int.ofNat 1)).toNat : Int))
    (nN [qE w, qE n, qE cap, qE x_2.lk, qE x_2.lc, qE x_2.lo, qE x_2.ln, qE x_2.ct, qE cap, qL n, qF n x_2.g, qE y.W, qE y.L, qE y.C, qE y.T, qE y.D, qE y.H, qE y.sl, qE y.ep, qE y.bm, qE y.qu, qE y.tb, qE nr, qE cr, qE x.fst.l.n, qE x.snd, qE x.snd, qL x.fst.l.n, qF x.fst.l.n x.fst.l.v.k, qF x.fst.l.n x.fst.l.v.w, qF x.fst.l.n x.fst.l.v.t, qF x.fst.l.n x.fst.l.v.o, qF x.fst.l.n x.fst.l.v.l, qE w, qE x.fst.p.lv, qE (atM w y.W y.bm (Int.ofNat 1)), qE x.fst.p.lv, qE x.fst.p.qt, qE x.fst.p.qb, qE x.fst.p.qr, qE x.fst.p.qc, qE (IntKind.i64.wrap (x.fst.p.ln + Int.ofNat 1)), qE x.fst.p.b, qE cr, qL nr, qF nr x.fst.st] V.ok))))))))
    (V.br (x.fst.p.ln == Int.ofNat 2)
    (nN [(7, .lt2 0 1 0 1), qE x.fst.p.qb, qE n, qE cap, qE x.fst.p.m.lk, qE x.fst.p.m.lc, qE x.fst.p.m.lo, qE x.fst.p.m.ln, qE x.fst.p.m.ct, qE cap, qL n, qF n x.fst.p.m.g, qX (x.fst.p.m.acc n (Int.ofNat 1) x.fst.p.qb (x.fst.p.m.val n x.fst.p.qb))]
    (V.any Mm (fun (m' : Mm) => m' = x.fst.p.m.acc n (Int.ofNat 1) x.fst.p.qb (x.fst.p.m.val n x.fst.p.qb)) fun (x_2 : Mm) => nN [qX (x.fst.p.m.val n x.fst.p.qb)]
    (V.any Int (fun (v : Int) => v = x.fst.p.m.val n x.fst.p.qb) fun (x_3 : Int) => nN [(2, .lt2 0 1 0 1)]
    (V.need (I (2, XTa.mk (XPo.mk x.fst.p.lv x.fst.p.qt x.fst.p.qb x.fst.p.qr x.fst.p.qc (IntKind.i64.wrap (x.fst.p.ln + Int.ofNat 1)) x_3 (Int.ofNat 0) (IntKind.i64.wrap ((↑x.fst.p.k : Int) + Int.ofNat 1)).toNat x_2) x.fst.l x.fst.st (Int.ofNat 0), x.snd))
    (V.need (M - (IntKind.i64.wrap ((↑x.fst.p.k : Int) + Int.ofNat 1)).toNat < M - x.fst.p.k)
    (V.need (IntKind.i64.wrap ((↑x.fst.p.k : Int) + Int.ofNat 1) = (↑(IntKind.i64.wrap ((↑x.fst.p.k : Int) + Int.ofNat 1)).toNat : Int))
    (nN [qE w, qE n, qE cap, qE x_2.lk, qE x_2.lc, qE x_2.lo, qE x_2.ln, qE x_2.ct, qE cap, qL n, qF n x_2.g, qE y.W, qE y.L, qE y.C, qE y.T, qE y.D, qE y.H, qE y.sl, qE y.ep, qE y.bm, qE y.qu, qE y.tb, qE nr, qE cr, qE x.fst.l.n, qE x.snd, qE x.snd, qL x.fst.l.n, qF x.fst.l.n x.fst.l.v.k, qF x.fst.l.n x.fst.l.v.w, qF x.fst.l.n x.fst.l.v.t, qF x.fst.l.n x.fst.l.v.o, qF x.fst.l.n x.fst.l.v.l, qE w, qE x.fst.p.lv, qE (atM w y.W y.bm (Int.ofNat 1)), qE x.fst.p.lv, qE x.fst.p.qt, qE x.fst.p.qb, qE x.fst.p.qr, qE x.fst.p.qc, qE (IntKind.i64.wrap (x.fst.p.ln + Int.ofNat 1)), qE x_3, qE cr, qL nr, qF nr x.fst.st] V.ok)))))))
    (V.br (x.fst.p.ln == Int.ofNat 3)
    (nN [(7, .lt2 0 1 0 1), qE x.fst.p.qt, qE n, qE cap, qE x.fst.p.m.lk, qE x.fst.p.m.lc, qE x.fst.p.m.lo, qE x.fst.p.m.ln, qE x.fst.p.m.ct, qE cap, qL n, qF n x.fst.p.m.g, qX (x.fst.p.m.acc n (Int.ofNat 1) x.fst.p.qt (x.fst.p.m.val n x.fst.p.qt))]
    (V.any Mm (fun (m' : Mm) => m' = x.fst.p.m.acc n (Int.ofNat 1) x.fst.p.qt (x.fst.p.m.val n x.fst.p.qt)) fun (x_2 : Mm) => nN [qX (x.fst.p.m.val n x.fst.p.qt)]
    (V.any Int (fun (v : Int) => v = x.fst.p.m.val n x.fst.p.qt) fun (x_3 : Int) => V.br (decide (IntKind.i64.wrap (IntKind.u64.wrap (x.fst.p.b - x_3)) ≤ Int.ofNat 0))
    (nN [(6, .lt2 0 1 0 1)]
    (V.need (I (0, XTa.mk (XPo.mk x.fst.p.lv (Int.ofNat 0) (Int.ofNat 0) (Int.ofNat 0) (Int.ofNat 0) (Int.ofNat 0) (Int.ofNat 0) (Int.ofNat 0) (IntKind.i64.wrap ((↑x.fst.p.k : Int) + Int.ofNat 1)).toNat x_2) x.fst.l x.fst.st (Int.ofNat 0), x.snd))
    (V.need (M - (IntKind.i64.wrap ((↑x.fst.p.k : Int) + Int.ofNat 1)).toNat < M - x.fst.p.k)
    (V.need (IntKind.i64.wrap ((↑x.fst.p.k : Int) + Int.ofNat 1) = (↑(IntKind.i64.wrap ((↑x.fst.p.k : Int) + Int.ofNat 1)).toNat : Int))
    (nN [qE w, qE n, qE cap, qE x_2.lk, qE x_2.lc, qE x_2.lo, qE x_2.ln, qE x_2.ct, qE cap, qL n, qF n x_2.g, qE y.W, qE y.L, qE y.C, qE y.T, qE y.D, qE y.H, qE y.sl, qE y.ep, qE y.bm, qE y.qu, qE y.tb, qE nr, qE cr, qE x.fst.l.n, qE x.snd, qE x.snd, qL x.fst.l.n, qF x.fst.l.n x.fst.l.v.k, qF x.fst.l.n x.fst.l.v.w, qF x.fst.l.n x.fst.l.v.t, qF x.fst.l.n x.fst.l.v.o, qF x.fst.l.n x.fst.l.v.l, qE w, qE x.fst.p.lv, qE cr, qL nr, qF nr x.fst.st] V.ok)))))
    (V.need (I (2, XTa.mk (XPo.mk x.fst.p.lv x.fst.p.qt x.fst.p.qb x.fst.p.qr x.fst.p.qc (IntKind.i64.wrap (x.fst.p.ln + Int.ofNat 1)) x.fst.p.b (Int.ofNat 0) (IntKind.i64.wrap ((↑x.fst.p.k : Int) + Int.ofNat 1)).toNat x_2) x.fst.l x.fst.st (Int.ofNat 0), x.snd))
    (V.need (M - (IntKind.i64.wrap ((↑x.fst.p.k : Int) + Int.ofNat 1)).toNat < M - x.fst.p.k)
    (V.need (IntKind.i64.wrap ((↑x.fst.p.k : Int) + Int.ofNat 1) = (↑(IntKind.i64.wrap ((↑x.fst.p.k : Int) + Int.ofNat 1)).toNat : Int))
    (nN [qE w, qE n, qE cap, qE x_2.lk, qE x_2.lc, qE x_2.lo, qE x_2.ln, qE x_2.ct, qE cap, qL n, qF n x_2.g, qE y.W, qE y.L, qE y.C, qE y.T, qE y.D, qE y.H, qE y.sl, qE y.ep, qE y.bm, qE y.qu, qE y.tb, qE nr, qE cr, qE x.fst.l.n, qE x.snd, qE x.snd, qL x.fst.l.n, qF x.fst.l.n x.fst.l.v.k, qF x.fst.l.n x.fst.l.v.w, qF x.fst.l.n x.fst.l.v.t, qF x.fst.l.n x.fst.l.v.o, qF x.fst.l.n x.fst.l.v.l, qE w, qE x.fst.p.lv, qE (atM w y.W y.bm (Int.ofNat 1)), qE x.fst.p.lv, qE x.fst.p.qt, qE x.fst.p.qb, qE x.fst.p.qr, qE x.fst.p.qc, qE (IntKind.i64.wrap (x.fst.p.ln + Int.ofNat 1)), qE x.fst.p.b, qE cr, qL nr, qF nr x.fst.st] V.ok)))))))
    (nN [(6, .lt2 0 1 0 1), qE (atM w y.W y.bm (Int.ofNat 1)), qE x_1, qE n, qE cap, qE x.fst.p.m.lk, qE x.fst.p.m.lc, qE x.fst.p.m.lo, qE x.fst.p.m.ln, qE x.fst.p.m.ct, qE cap, qL n, qF n x.fst.p.m.g, qX (x.fst.p.m.acc n (Int.ofNat 4) (atM w y.W y.bm (Int.ofNat 1)) (bits BinOp.or IntKind.u64 (x.fst.p.m.val n (atM w y.W y.bm (Int.ofNat 1))) x_1))]
    (V.any Mm (fun (m' : Mm) => m' = x.fst.p.m.acc n (Int.ofNat 4) (atM w y.W y.bm (Int.ofNat 1)) (bits BinOp.or IntKind.u64 (x.fst.p.m.val n (atM w y.W y.bm (Int.ofNat 1))) x_1)) fun (x_2 : Mm) => nN [qX (x.fst.p.m.val n (atM w y.W y.bm (Int.ofNat 1)))]
    (V.any Int (fun (v : Int) => v = x.fst.p.m.val n (atM w y.W y.bm (Int.ofNat 1))) fun (x_3 : Int) => nN [(6, .lt2 0 1 0 1)]
    (V.need (I (0, XTa.mk (XPo.mk x.fst.p.lv (Int.ofNat 0) (Int.ofNat 0) (Int.ofNat 0) (Int.ofNat 0) (Int.ofNat 0) (Int.ofNat 0) (Int.ofNat 0) (IntKind.i64.wrap ((↑x.fst.p.k : Int) + Int.ofNat 1)).toNat x_2) x.fst.l x.fst.st (Int.ofNat 0), x.snd))
    (V.need (M - (IntKind.i64.wrap ((↑x.fst.p.k : Int) + Int.ofNat 1)).toNat < M - x.fst.p.k)
    (V.need (IntKind.i64.wrap ((↑x.fst.p.k : Int) + Int.ofNat 1) = (↑(IntKind.i64.wrap ((↑x.fst.p.k : Int) + Int.ofNat 1)).toNat : Int))
    (nN [qE w, qE n, qE cap, qE x_2.lk, qE x_2.lc, qE x_2.lo, qE x_2.ln, qE x_2.ct, qE cap, qL n, qF n x_2.g, qE y.W, qE y.L, qE y.C, qE y.T, qE y.D, qE y.H, qE y.sl, qE y.ep, qE y.bm, qE y.qu, qE y.tb, qE nr, qE cr, qE x.fst.l.n, qE x.snd, qE x.snd, qL x.fst.l.n, qF x.fst.l.n x.fst.l.v.k, qF x.fst.l.n x.fst.l.v.w, qF x.fst.l.n x.fst.l.v.t, qF x.fst.l.n x.fst.l.v.o, qF x.fst.l.n x.fst.l.v.l, qE w, qE x.fst.p.lv, qE cr, qL nr, qF nr x.fst.st] V.ok)))))))))))))
    (V.need (φ (Rt.mk (Re.mk (Int.negSucc 0) (Int.ofNat 0) (↑x.fst.p.k : Int) x.fst.p.m x.fst.l) fun (e : Nat) => x.fst.st e, x.snd))
    (nN [qE (Int.negSucc 0), (1, .eqI 0 0), qE ((↑x.fst.p.k : Int)), qE y.W, qE y.L, qE y.C, qE y.T, qE y.D, qE y.H, qE y.sl, qE y.ep, qE y.bm, qE y.qu, qE y.tb, qE nr, qE cr, qE x.fst.l.n, qE x.snd, qE n, qE cap, qE x.fst.p.m.lk, qE x.fst.p.m.lc, qE x.fst.p.m.lo, qE x.fst.p.m.ln, qE x.fst.p.m.ct, qE cap, qL n, qF n x.fst.p.m.g, qE cr, qL nr, qF nr x.fst.st, qE x.snd, qL x.fst.l.n, qF x.fst.l.n x.fst.l.v.k, qF x.fst.l.n x.fst.l.v.w, qF x.fst.l.n x.fst.l.v.t, qF x.fst.l.n x.fst.l.v.o, qF x.fst.l.n x.fst.l.v.l] V.ok)))
    (V.any Bool (fun (x : Bool) => True) fun (b : Bool) => V.br b
    (V.any (XTa × Nat) (fun (x : XTa × Nat) => I (3, x)) fun (x : XTa × Nat) => V.br (decide ((↑x.fst.p.k : Int) < (↑M : Int)))
    (nN [(25, .lt2 0 1 0 1), qE x.fst.v, qE y.T, qE (IntKind.i64.wrap (y.tb + Int.ofNat 0)), (1, .eqI 5 5)]
    (V.need (okAtT x.fst.v y.T (IntKind.i64.wrap (y.tb + Int.ofNat 0)) (Int.ofNat 5))
    (nN [qX (atM x.fst.v y.T (IntKind.i64.wrap (y.tb + Int.ofNat 0)) (Int.ofNat 5))]
    (V.any Int (fun (r : Int) => r = atM x.fst.v y.T (IntKind.i64.wrap (y.tb + Int.ofNat 0)) (Int.ofNat 5)) fun (x_1 : Int) => nN [qE x_1, (1, .eqI 1 1), (1, .eqI 2 2), qE n, qE cap, qE x.fst.p.m.lk, qE x.fst.p.m.lc, qE x.fst.p.m.lo, qE x.fst.p.m.ln, qE x.fst.p.m.ct, qE cap, qL n, qF n x.fst.p.m.g, qX (x.fst.p.m.acc n (Int.ofNat 3) x_1 (casV (x.fst.p.m.hit n x_1 (Int.ofNat 1)) (x.fst.p.m.val n x_1) (Int.ofNat 2)))]
    (V.any Mm (fun (m' : Mm) => m' = x.fst.p.m.acc n (Int.ofNat 3) x_1 (casV (x.fst.p.m.hit n x_1 (Int.ofNat 1)) (x.fst.p.m.val n x_1) (Int.ofNat 2))) fun (x_2 : Mm) => nN [qX (x.fst.p.m.hit n x_1 (Int.ofNat 1))]
    (V.any Bool (fun (v : Bool) => v = x.fst.p.m.hit n x_1 (Int.ofNat 1)) fun (x_3 : Bool) => V.br (!x_3)
    (nN [(13, .lt2 0 1 0 1)]
    (V.need (x.fst.l.n ≤ x.fst.l.n ∧ x.snd = x.snd)
    (V.need (x.fst.l.n + 1 ≤ 9223372036854775807 ∧ (x.fst.l.n + 1) * 40 ≤ 140737488355328)
    (V.any Nat (fun (x_4 : Nat) => x.fst.l.n + 1 ≤ x_4) fun (x_4 : Nat) => nN [(8, .lt2 0 1 0 1)]
    (V.need (I (0, XTa.mk (XPo.mk (Int.ofNat 0) (Int.ofNat 0) (Int.ofNat 0) (Int.ofNat 0) (Int.ofNat 0) (Int.ofNat 0) (Int.ofNat 0) (Int.ofNat 0) (IntKind.i64.wrap ((↑x.fst.p.k : Int) + Int.ofNat 1)).toNat x_2) (El.mk (x.fst.l.n + 1) (Evs.mk (fun (i : Nat) => if 0 = 0 ∧ i = x.fst.l.n then Int.ofNat 15 else x.fst.l.v.k i) (fun (i : Nat) => if 0 = 0 ∧ i = x.fst.l.n then w else x.fst.l.v.w i) (fun (i : Nat) => if 0 = 0 ∧ i = x.fst.l.n then x.fst.v else x.fst.l.v.t i) (fun (i : Nat) => if 0 = 0 ∧ i = x.fst.l.n then Int.ofNat 0 else x.fst.l.v.o i) fun (i : Nat) => if 0 = 0 ∧ i = x.fst.l.n then Int.ofNat 0 else x.fst.l.v.l i)) x.fst.st (Int.ofNat 0), x_4))
    (V.need (M - (IntKind.i64.wrap ((↑x.fst.p.k : Int) + Int.ofNat 1)).toNat < M - x.fst.p.k)
    (V.need (IntKind.i64.wrap ((↑x.fst.p.k : Int) + Int.ofNat 1) = (↑(IntKind.i64.wrap ((↑x.fst.p.k : Int) + Int.ofNat 1)).toNat : Int))
    (nN [qE w, qE n, qE cap, qE x_2.lk, qE x_2.lc, qE x_2.lo, qE x_2.ln, qE x_2.ct, qE cap, qL n, qF n x_2.g, qE y.W, qE y.L, qE y.C, qE y.T, qE y.D, qE y.H, qE y.sl, qE y.ep, qE y.bm, qE y.qu, qE y.tb, qE nr, qE cr, qE (x.fst.l.n + 1), qE x_4, qE x_4]
    (V.need (x.fst.l.n + 1 ≤ x.fst.l.n + 1)
    (V.need (∀ (e : Nat), e < x.fst.l.n + 1 → (if 0 = 0 ∧ e = x.fst.l.n then Int.ofNat 15 else x.fst.l.v.k e) = if 0 = 0 ∧ e = x.fst.l.n then Int.ofNat 15 else x.fst.l.v.k e)
    (V.need (∀ (e : Nat), e < x.fst.l.n + 1 → (if 0 = 0 ∧ e = x.fst.l.n then w else x.fst.l.v.w e) = if 0 = 0 ∧ e = x.fst.l.n then w else x.fst.l.v.w e)
    (V.need (∀ (e : Nat), e < x.fst.l.n + 1 → (if 0 = 0 ∧ e = x.fst.l.n then x.fst.v else x.fst.l.v.t e) = if 0 = 0 ∧ e = x.fst.l.n then x.fst.v else x.fst.l.v.t e)
    (V.need (∀ (e : Nat), e < x.fst.l.n + 1 → (if 0 = 0 ∧ e = x.fst.l.n then Int.ofNat 0 else x.fst.l.v.o e) = if 0 = 0 ∧ e = x.fst.l.n then Int.ofNat 0 else x.fst.l.v.o e)
    (V.need (∀ (e : Nat), e < x.fst.l.n + 1 → (if 0 = 0 ∧ e = x.fst.l.n then Int.ofNat 0 else x.fst.l.v.l e) = if 0 = 0 ∧ e = x.fst.l.n then Int.ofNat 0 else x.fst.l.v.l e)
    (nN [qE w, (1, .eqI 0 0), (1, .le 0 0), (1, .pf (∀ (i : Nat), i < 0 → 0 ≤ 0) (by intros; exact Nat.le_refl _)), qE cr, qL nr, qF nr x.fst.st] V.ok)))))))))))))))
    (nN [(6, .lt2 0 1 0 1)]
    (V.need (Int.ofNat 0 ≤ x.fst.v ∧ x.fst.v < (↑nr : Int))
    (V.need (0 < 1 ∧ 0 + x.fst.v.toNat < nr)
    (V.need (0 + x.fst.v.toNat < nr)
    (V.need (0 + x.fst.v.toNat < nr)
    (V.need (0 + x.fst.v.toNat < nr)
    (V.br (x.fst.st (0 + x.fst.v.toNat))
    (nN [(13, .lt2 0 1 0 1)]
    (V.need (x.fst.l.n ≤ x.fst.l.n ∧ x.snd = x.snd)
    (V.need (x.fst.l.n + 1 ≤ 9223372036854775807 ∧ (x.fst.l.n + 1) * 40 ≤ 140737488355328)
    (V.any Nat (fun (x_4 : Nat) => x.fst.l.n + 1 ≤ x_4) fun (x_4 : Nat) => nN [(19, .lt2 0 1 0 1)]
    (V.need (φ (Rt.mk (Re.mk (Int.ofNat 1) x.fst.v (IntKind.i64.wrap ((↑x.fst.p.k : Int) + Int.ofNat 1)) x_2 (El.mk (x.fst.l.n + 1) (Evs.mk (fun (i : Nat) => if 0 = 0 ∧ i = x.fst.l.n then Int.ofNat 9 else x.fst.l.v.k i) (fun (i : Nat) => if 0 = 0 ∧ i = x.fst.l.n then w else x.fst.l.v.w i) (fun (i : Nat) => if 0 = 0 ∧ i = x.fst.l.n then x.fst.v else x.fst.l.v.t i) (fun (i : Nat) => if 0 = 0 ∧ i = x.fst.l.n then Int.ofNat 0 else x.fst.l.v.o i) fun (i : Nat) => if 0 = 0 ∧ i = x.fst.l.n then Int.ofNat 0 else x.fst.l.v.l i))) fun (e : Nat) => x.fst.st e, x_4))
    (nN [(1, .eqI 1 1), qE x.fst.v, qE (IntKind.i64.wrap ((↑x.fst.p.k : Int) + Int.ofNat 1)), qE y.W, qE y.L, qE y.C, qE y.T, qE y.D, qE y.H, qE y.sl, qE y.ep, qE y.bm, qE y.qu, qE y.tb, qE nr, qE cr, qE (x.fst.l.n + 1), qE x_4, qE n, qE cap, qE x_2.lk, qE x_2.lc, qE x_2.lo, qE x_2.ln, qE x_2.ct, qE cap, qL n, qF n x_2.g, qE cr, qL nr, qF nr x.fst.st, qE x_4]
    (V.need (x.fst.l.n + 1 ≤ x.fst.l.n + 1)
    (V.need (∀ (e : Nat), e < x.fst.l.n + 1 → (if 0 = 0 ∧ e = x.fst.l.n then Int.ofNat 9 else x.fst.l.v.k e) = if 0 = 0 ∧ e = x.fst.l.n then Int.ofNat 9 else x.fst.l.v.k e)
    (V.need (∀ (e : Nat), e < x.fst.l.n + 1 → (if 0 = 0 ∧ e = x.fst.l.n then w else x.fst.l.v.w e) = if 0 = 0 ∧ e = x.fst.l.n then w else x.fst.l.v.w e)
    (V.need (∀ (e : Nat), e < x.fst.l.n + 1 → (if 0 = 0 ∧ e = x.fst.l.n then x.fst.v else x.fst.l.v.t e) = if 0 = 0 ∧ e = x.fst.l.n then x.fst.v else x.fst.l.v.t e)
    (V.need (∀ (e : Nat), e < x.fst.l.n + 1 → (if 0 = 0 ∧ e = x.fst.l.n then Int.ofNat 0 else x.fst.l.v.o e) = if 0 = 0 ∧ e = x.fst.l.n then Int.ofNat 0 else x.fst.l.v.o e)
    (V.need (∀ (e : Nat), e < x.fst.l.n + 1 → (if 0 = 0 ∧ e = x.fst.l.n then Int.ofNat 0 else x.fst.l.v.l e) = if 0 = 0 ∧ e = x.fst.l.n then Int.ofNat 0 else x.fst.l.v.l e) V.ok))))))))))))
    (V.need (0 + x.fst.v.toNat < nr)
    (V.need (0 + x.fst.v.toNat < nr)
    (V.need (0 + x.fst.v.toNat < nr)
    (nN [(13, .lt2 0 1 0 1)]
    (V.need (x.fst.l.n ≤ x.fst.l.n ∧ x.snd = x.snd)
    (V.need (x.fst.l.n + 1 ≤ 9223372036854775807 ∧ (x.fst.l.n + 1) * 40 ≤ 140737488355328)
    (V.any Nat (fun (x_4 : Nat) => x.fst.l.n + 1 ≤ x_4) fun (x_4 : Nat) => nN [(19, .lt2 0 1 0 1)]
    (V.need (φ (Rt.mk (Re.mk (Int.ofNat 1) x.fst.v (IntKind.i64.wrap ((↑x.fst.p.k : Int) + Int.ofNat 1)) x_2 (El.mk (x.fst.l.n + 1) (Evs.mk (fun (i : Nat) => if 0 = 0 ∧ i = x.fst.l.n then Int.ofNat 5 else x.fst.l.v.k i) (fun (i : Nat) => if 0 = 0 ∧ i = x.fst.l.n then w else x.fst.l.v.w i) (fun (i : Nat) => if 0 = 0 ∧ i = x.fst.l.n then x.fst.v else x.fst.l.v.t i) (fun (i : Nat) => if 0 = 0 ∧ i = x.fst.l.n then Int.ofNat 0 else x.fst.l.v.o i) fun (i : Nat) => if 0 = 0 ∧ i = x.fst.l.n then Int.ofNat 0 else x.fst.l.v.l i))) fun (e : Nat) => if 0 = 0 ∧ e = 0 + x.fst.v.toNat then true else x.fst.st e, x_4))
    (nN [(1, .eqI 1 1), qE x.fst.v, qE (IntKind.i64.wrap ((↑x.fst.p.k : Int) + Int.ofNat 1)), qE y.W, qE y.L, qE y.C, qE y.T, qE y.D, qE y.H, qE y.sl, qE y.ep, qE y.bm, qE y.qu, qE y.tb, qE nr, qE cr, qE (x.fst.l.n + 1), qE x_4, qE n, qE cap, qE x_2.lk, qE x_2.lc, qE x_2.lo, qE x_2.ln, qE x_2.ct, qE cap, qL n, qF n x_2.g, qE cr, qL nr]
    (V.need (∀ (e : Nat), e < nr → (if 0 = 0 ∧ e = 0 + x.fst.v.toNat then true else x.fst.st e) = if 0 = 0 ∧ e = 0 + x.fst.v.toNat then true else x.fst.st e)
    (nN [qE x_4]
    (V.need (x.fst.l.n + 1 ≤ x.fst.l.n + 1)
    (V.need (∀ (e : Nat), e < x.fst.l.n + 1 → (if 0 = 0 ∧ e = x.fst.l.n then Int.ofNat 5 else x.fst.l.v.k e) = if 0 = 0 ∧ e = x.fst.l.n then Int.ofNat 5 else x.fst.l.v.k e)
    (V.need (∀ (e : Nat), e < x.fst.l.n + 1 → (if 0 = 0 ∧ e = x.fst.l.n then w else x.fst.l.v.w e) = if 0 = 0 ∧ e = x.fst.l.n then w else x.fst.l.v.w e)
    (V.need (∀ (e : Nat), e < x.fst.l.n + 1 → (if 0 = 0 ∧ e = x.fst.l.n then x.fst.v else x.fst.l.v.t e) = if 0 = 0 ∧ e = x.fst.l.n then x.fst.v else x.fst.l.v.t e)
    (V.need (∀ (e : Nat), e < x.fst.l.n + 1 → (if 0 = 0 ∧ e = x.fst.l.n then Int.ofNat 0 else x.fst.l.v.o e) = if 0 = 0 ∧ e = x.fst.l.n then Int.ofNat 0 else x.fst.l.v.o e)
    (V.need (∀ (e : Nat), e < x.fst.l.n + 1 → (if 0 = 0 ∧ e = x.fst.l.n then Int.ofNat 0 else x.fst.l.v.l e) = if 0 = 0 ∧ e = x.fst.l.n then Int.ofNat 0 else x.fst.l.v.l e) V.ok))))))))))))))))))))))))))))))
    (V.need (φ (Rt.mk (Re.mk (Int.negSucc 0) (Int.ofNat 0) (↑x.fst.p.k : Int) x.fst.p.m x.fst.l) fun (e : Nat) => x.fst.st e, x.snd))
    (nN [qE (Int.negSucc 0), (1, .eqI 0 0), qE ((↑x.fst.p.k : Int)), qE y.W, qE y.L, qE y.C, qE y.T, qE y.D, qE y.H, qE y.sl, qE y.ep, qE y.bm, qE y.qu, qE y.tb, qE nr, qE cr, qE x.fst.l.n, qE x.snd, qE n, qE cap, qE x.fst.p.m.lk, qE x.fst.p.m.lc, qE x.fst.p.m.lo, qE x.fst.p.m.ln, qE x.fst.p.m.ct, qE cap, qL n, qF n x.fst.p.m.g, qE cr, qL nr, qF nr x.fst.st, qE x.snd, qL x.fst.l.n, qF x.fst.l.n x.fst.l.v.k, qF x.fst.l.n x.fst.l.v.w, qF x.fst.l.n x.fst.l.v.t, qF x.fst.l.n x.fst.l.v.o, qF x.fst.l.n x.fst.l.v.l] V.ok))) V.ok))))))))) := by kernel_rfl


end Go.Proofs.Ytomaagmleafjeaa.Md

/- Take alone: the conditions hold. -/
set_option maxRecDepth 100000
namespace Go.Proofs.Ytomaagmleafjeaa.Md
open Go Go.RowKit Sx Cn Dc Ck Vc
theorem taRun_lt {y : Ly} {n : Nat} {w : Int} {nr k M : Nat} (h : k < M) (s : Nat × XTa) : taRun y n w nr (M - k) s = match taStep y n w nr s with
    | none => none
    | some (x', none) => taRun y n w nr (M - (k + 1)) x'
    | some (x', some r) => some ⟨⟨r.1, r.2, x'.2.p.k, x'.2.p.m, x'.2.l⟩, x'.2.st⟩ := by
  rw [show M - k = (M - (k + 1)) + 1 by omega]
  rfl
theorem taRun_eq {y : Ly} {n : Nat} {w : Int} {nr k M : Nat} (h : ¬ k < M) (s : Nat × XTa) : taRun y n w nr (M - k) s = some ⟨⟨-1, 0, (s.2.p.k : Int), s.2.p.m, s.2.l⟩, s.2.st⟩ := by
  rw [show M - k = 0 by omega]
  rfl
theorem ta_rng {y : Ly} {n : Nat} {w : Int} {nr k M : Nat} {x : XTa} {R : Rt} (h : k < M) (hR : taRun y n w nr (M - k) (3, x) = some R) (hh : x.p.m.hit n (atM x.v y.T (IntKind.i64.wrap (y.tb + 0)) 5) 1 = true) : 0 ≤ x.v ∧ x.v < nr := by
  rw [taRun_lt h] at hR
  by_cases c : 0 ≤ x.v ∧ x.v < nr
  · exact c
  · simp only [taStep, stA, hh, if_neg c, if_true] at hR
    cases hR
theorem okTa_i {y : Ly} {n : Nat} {w : Int} {nr M : Nat} {R : Rt} {q : Nat} {x : XTa} {nc : Nat} (hq : q < 4) (hs : x.p.k ≤ M) (hm : ∀ e, 0 ≤ x.p.m.g e ∧ x.p.m.g e ≤ 18446744073709551615) (hb : 0 ≤ x.p.b ∧ x.p.b ≤ 18446744073709551615) (ht : 0 ≤ x.p.t ∧ x.p.t ≤ 18446744073709551615) (hc : x.p.qc ≤ 9223372036854775807) (h1 : x.l.n ≤ nc) (h2 : x.l.n ≤ 1000 + x.p.k) (hr : taRun y n w nr (M - x.p.k) (q, x) = some R) : okTa y n w nr M R (q, x, nc) := ⟨hq, hs, hm, hb, ht, hc, ⟨h1, h2⟩, hr⟩
theorem finT_of {A R : Rt} {nc : Nat} (h : some R = some A) (hn : A.r.l.n ≤ nc) : A = R ∧ R.r.l.n ≤ nc := by
  obtain rfl := Option.some.inj h
  exact ⟨rfl, hn⟩
/-- What is asked of a layout and a worker. -/
structure TaOK (y : Ly) (w : Int) : Prop where
  s : y.small
  W : okAtT w y.W y.bm 1
  T : ∀ t : Int, okAtT t y.T (IntKind.i64.wrap (y.tb + 0)) 5
set_option maxHeartbeats 16000000 in
theorem vhTa {y : Ly} {n cap : Nat} {w : Int} {nr cr M : Nat} {m : Mm} {l : El} {nc : Nat} {st : Nat → Bool} {R : Rt} (hy : TaOK y w) (hM : M ≤ 1000) (hm : m.ok) (hl : l.n ≤ nc ∧ l.n ≤ 1000) (hR : taR y n w nr M m l st = some R) : VHolds (verTa y n cap w nr cr M m l nc st (okTa y n w nr M R) fun r => r.1 = R ∧ R.r.l.n ≤ r.2) := by
  constructor
  rw [verTa_eq]
  refine V.needI ⟨Nat.zero_lt_succ _, Nat.zero_le _, hm, ⟨show (0 : Int) ≤ 0 by decide, show (0 : Int) ≤ 18446744073709551615 by decide⟩, ⟨show (0 : Int) ≤ 0 by decide, show (0 : Int) ≤ 18446744073709551615 by decide⟩, show (0 : Int) ≤ 9223372036854775807 by decide, ⟨hl.1, by show l.n ≤ 1000 + 0; omega⟩, hR⟩ (V.needI rfl (nN_h rfl (V.needI (fun i h => by omega) (nN_h rfl (V.needI (fun x hx => hx.1) ?_)))))
  refine V.anyI fun b _ => V.brI (fun _ => V.anyI fun x hx => ?s0) (fun _ => V.anyI fun b _ => V.brI (fun _ => V.anyI fun x hx => ?s1) (fun _ => V.anyI fun b _ => V.brI (fun _ => V.anyI fun x hx => ?s2) (fun _ => V.anyI fun b _ => V.brI (fun _ => V.anyI fun x hx => ?s3) (fun _ => V.okI))))
  all_goals
    obtain ⟨x, nc⟩ := x
    obtain ⟨-, hk, hg, hb, ht, hc, ⟨hn, hn2⟩, hR⟩ := hx
    clear hl hm
    dsimp only at hk hg hb ht hc hn hn2 hR ⊢
    refine V.brI (fun hlt => ?_) (fun hge => ?_)
    case' refine_1 =>
      have hkm : x.p.k < M := by simpa using hlt
      have hR0 := hR
      rw [taRun_lt hkm] at hR
      have ek : IntKind.i64.wrap ((x.p.k : Int) + Int.ofNat 1) = ((x.p.k + 1 : Nat) : Int) := wnat (by omega)
      simp only [ek, Int.toNat_natCast]
    case' refine_2 =>
      have hge : ¬ x.p.k < M := by simpa using hge
      rw [taRun_eq hge] at hR
      have hR := Option.some.inj hR
  all_goals (repeat' first | with_reducible exact V.okI | with_reducible refine V.brT ?_ | with_reducible refine V.brF ?_ | with_reducible refine V.brI ?_ ?_ | with_reducible refine V.anyI ?_ | with_reducible refine nN_h rfl ?_ | with_reducible refine V.needI ?_ ?_ | with_reducible intro _)
  all_goals subst_vars
  all_goals simp only [Int.ofNat_eq_natCast, Int.cast_ofNat_Int, Int.natCast_zero, Int.natCast_one, decide_eq_true_eq, decide_eq_false_iff_not, beq_iff_eq, beq_eq_false_iff_ne, Mm.eta, Bool.not_eq_true', Bool.not_eq_false', gt_iff_lt, bne_iff_ne, bne_eq_false_iff_eq, ne_eq, true_and, Nat.zero_add] at *
  all_goals first
    | with_reducible rfl
    | omega
    | exact hy.W
    | exact hy.T _
    | exact hy.s
    | exact hc
    | exact Mm.ok_val hg
    | exact ⟨0, trivial⟩
    | exact ⟨Nat.le_refl _, trivial⟩
    | exact ⟨rfl, hn⟩
    | exact ta_rng hkm hR0 (by assumption)
    | exact ⟨Nat.zero_lt_one, by have := ta_rng hkm hR0 (by assumption); omega⟩
    | (have := ta_rng hkm hR0 (by assumption); omega)
    | (refine okTa_i (by decide) ?_ ?_ ?_ ?_ ?_ ?_ ?_ (Eq.trans ?_ hR)
       · dsimp only [noPo]; omega
       · dsimp only [noPo]
         intro e
         repeat' first
           | exact hg _
           | exact hg
           | exact hb
           | exact wrap_ok _
           | exact casV_ok (Mm.ok_val hg) (wrap_ok _)
           | exact casV_ok (Mm.ok_val hg) (by decide)
           | exact bits_ok _
           | exact Mm.ok_val hg
           | with_reducible refine Mm.ok_acc ?_ ?_ _
       · dsimp only [noPo]
         first
           | exact hb
           | exact Mm.ok_val hg
           | decide
       · dsimp only [noPo]
         first
           | exact ht
           | exact Mm.ok_val hg
           | decide
       · dsimp only [noPo]
         first
           | exact hc
           | exact quM_c hy.s _ _
           | decide
       · dsimp only [noPo]; omega
       · dsimp only [noPo]; omega
       · clear hR
         first
           | (simp only [taStep, popStep, *, if_true]; done)
           | (simp [taStep, popStep, noPo, stA, clM, El.put, sz, hiB, us, k2, k3, k4, k5, k6, k7, k8, *]; done)
           | skip)
    | (refine finT_of (hR.symm.trans ?_) ?_
       · clear hR
         first
           | (simp [taStep, popStep, noPo, *]; done)
           | (have hw := ta_rng hkm hR0 (by assumption)
              simp [taStep, noPo, stA, clM, El.put, *]; done)
           | skip
       · first
           | exact hn
           | (dsimp only; omega))
    | (exfalso; simp [taStep, *] at hR; done)
    | skip
  · refine okTa_i (by decide) ?_ ?_ ?_ ?_ ?_ ?_ ?_ (Eq.trans ?_ hR)
    · dsimp only [noPo]; omega
    · dsimp only [noPo]
      exact fun e => Mm.ok_acc hg (casV_ok (Mm.ok_val hg) ⟨by omega, by omega⟩) e
    · dsimp only; decide
    · dsimp only; decide
    · dsimp only; decide
    · dsimp only; omega
    · dsimp only; omega
    · clear hR hR0
      simp only [taStep, noPo, stA, clM, El.put, *, if_true, and_self, Bool.false_eq_true, if_false]
  · have hw := ta_rng hkm hR0 (by assumption)
    refine finT_of (hR.symm.trans ?_) ?_
    · clear hR hR0
      simp only [taStep, noPo, stA, clM, El.put, *, if_true, and_self, Bool.false_eq_true, if_false]
    · dsimp only; omega
  · have hw := ta_rng hkm hR0 (by assumption)
    refine finT_of (hR.symm.trans ?_) ?_
    · clear hR hR0
      simp only [taStep, noPo, stA, clM, El.put, *, if_true, and_self, Bool.false_eq_true, if_false]
    · dsimp only; omega
end Go.Proofs.Ytomaagmleafjeaa.Md
