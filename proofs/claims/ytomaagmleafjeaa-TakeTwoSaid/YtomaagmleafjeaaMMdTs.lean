/- A step of Take: the conditions, printed by program. -/
import Derived.Test.YtomaagmleafjeaaMMdTsD
import Derived.Test.YtomaagmleafjeaaMW
import Derived.Test.YtomaagmleafjeaaMV
import Derived.Test.YtomaagmleafjeaaMMdTa
set_option linter.unusedVariables false
set_option linter.unusedSimpArgs false
set_option maxRecDepth 100000
namespace Go.Proofs.Ytomaagmleafjeaa.Md
open Go Go.RowKit Sx Cn Dc Ck Vc

theorem verTs_0 (y : Ly) (n cap : Nat) (w : Int) (x : XTa) (nc nr cr : Nat) (b : Nat → Bool) (φ : Nat → XTs → Prop) : V.pr .z (verTs y n cap w 0 x nc nr cr b φ) =
  nN [(19, .lt2 0 1 0 1), qE w, qE y.W, qE y.bm, (1, .eqI 1 1)]
    (V.need (okAtT w y.W y.bm (Int.ofNat 1))
    (nN [qX (atM w y.W y.bm (Int.ofNat 1))]
    (V.any Int (fun (r : Int) => r = atM w y.W y.bm (Int.ofNat 1)) fun (x_1 : Int) => nN [qE x_1, qE n, qE cap, qE x.p.m.lk, qE x.p.m.lc, qE x.p.m.lo, qE x.p.m.ln, qE x.p.m.ct, qE cap, qL n, qF n x.p.m.g, qX (x.p.m.acc n (Int.ofNat 1) x_1 (x.p.m.val n x_1))]
    (V.any Mm (fun (m' : Mm) => m' = x.p.m.acc n (Int.ofNat 1) x_1 (x.p.m.val n x_1)) fun (x_2 : Mm) => nN [qX (x.p.m.val n x_1)]
    (V.any Int (fun (v : Int) => v = x.p.m.val n x_1) fun (x_3 : Int) => V.br (x_3 == Int.ofNat 0)
    (nN [(6, .lt2 0 1 0 1)]
    (V.need (b 4 = true)
    (V.need (φ 5 (XTs.mk (XTa.mk (noPo 1 x_2) x.l x.st (Int.ofNat 0)) nc))
    (nN [qE y.W, qE y.L, qE y.C, qE y.T, qE y.D, qE y.H, qE y.sl, qE y.ep, qE y.bm, qE y.qu, qE y.tb, qE nr, qE cr, qE x.l.n, qE nc, qE n, qE cap, qE x_2.lk, qE x_2.lc, qE x_2.lo, qE x_2.ln, qE x_2.ct, qE cap, qL n, qF n x_2.g, qE cr, qL nr, qF nr x.st, qE nc, qL x.l.n, qF x.l.n x.l.v.k, qF x.l.n x.l.v.w, qF x.l.n x.l.v.t, qF x.l.n x.l.v.o, qF x.l.n x.l.v.l] V.ok))))
    (V.need (Int.ofNat 0 ≤ x_3 ∧ x_3 ≤ Int.ofNat 18446744073709551615)
    (nN [(19, .lt2 0 1 0 1), qE y.W, qE y.L, qE y.C, qE y.T, qE y.D, qE y.H, qE y.sl, qE y.ep, qE y.bm, qE y.qu, qE y.tb, qE w, qE (IntKind.i64.wrap ((↑(Lib.bitLen x_3.toNat) : Int) - Int.ofNat 1))]
    (V.need (Ly.mk y.W y.L y.C y.T y.D y.H y.sl y.ep y.bm y.qu y.tb).small
    (nN [qX (quM (Ly.mk y.W y.L y.C y.T y.D y.H y.sl y.ep y.bm y.qu y.tb) w (IntKind.i64.wrap ((↑(Lib.bitLen x_3.toNat) : Int) - Int.ofNat 1)))]
    (V.any Qu (fun (q : Qu) => q = quM (Ly.mk y.W y.L y.C y.T y.D y.H y.sl y.ep y.bm y.qu y.tb) w (IntKind.i64.wrap ((↑(Lib.bitLen x_3.toNat) : Int) - Int.ofNat 1))) fun (x_4 : Qu) => nN [(4, .lt2 0 1 0 1)]
    (V.need (b 4 = false)
    (V.need (φ 1 (XTs.mk (XTa.mk (XPo.mk (IntKind.i64.wrap ((↑(Lib.bitLen x_3.toNat) : Int) - Int.ofNat 1)) x_4.t x_4.b x_4.r x_4.c (Int.ofNat 1) (Int.ofNat 0) (Int.ofNat 0) 1 x_2) x.l x.st (Int.ofNat 0)) nc))
    (nN [qE y.W, qE y.L, qE y.C, qE y.T, qE y.D, qE y.H, qE y.sl, qE y.ep, qE y.bm, qE y.qu, qE y.tb, qE nr, qE cr, qE x.l.n, qE nc, qE n, qE cap, qE x_2.lk, qE x_2.lc, qE x_2.lo, qE x_2.ln, qE x_2.ct, qE cap, qL n, qF n x_2.g, qE w, qE w, qE (IntKind.i64.wrap ((↑(Lib.bitLen x_3.toNat) : Int) - Int.ofNat 1)), qE x_4.t, qE x_4.b, qE x_4.r, qE x_4.c, (1, .eqI 1 1), (2, .eqI 0 0), qE cr, qL nr, qF nr x.st, qE nc, qL x.l.n, qF x.l.n x.l.v.k, qF x.l.n x.l.v.w, qF x.l.n x.l.v.t, qF x.l.n x.l.v.o, qF x.l.n x.l.v.l] V.ok))))))))))))) := by kernel_rfl

theorem verTs_1 (y : Ly) (n cap : Nat) (w : Int) (x : XTa) (nc nr cr : Nat) (b : Nat → Bool) (φ : Nat → XTs → Prop) : V.pr (.b .z (.b .z (.b .z (.b .z (.b (.t .z) .z))))) (verTs y n cap w 1 x nc nr cr b φ) =
  nN [(6, .lt2 0 1 0 1)]
    (V.br (x.p.ln == Int.ofNat 1)
    (nN [qE x.p.qb, qE n, qE cap, qE x.p.m.lk, qE x.p.m.lc, qE x.p.m.lo, qE x.p.m.ln, qE x.p.m.ct, qE cap, qL n, qF n x.p.m.g, qX (x.p.m.acc n (Int.ofNat 1) x.p.qb (x.p.m.val n x.p.qb))]
    (V.any Mm (fun (m' : Mm) => m' = x.p.m.acc n (Int.ofNat 1) x.p.qb (x.p.m.val n x.p.qb)) fun (x_1 : Mm) => nN [qX (x.p.m.val n x.p.qb)]
    (V.any Int (fun (v : Int) => v = x.p.m.val n x.p.qb) fun (x_2 : Int) => V.need (b 1 = true)
    (V.need (φ 1 (XTs.mk (XTa.mk (XPo.mk x.p.lv x.p.qt x.p.qb x.p.qr x.p.qc (IntKind.i64.wrap (x.p.ln + Int.ofNat 1)) x_2 x.p.t 1 x_1) x.l x.st (Int.ofNat 0)) nc))
    (nN [qE y.W, qE y.L, qE y.C, qE y.T, qE y.D, qE y.H, qE y.sl, qE y.ep, qE y.bm, qE y.qu, qE y.tb, qE nr, qE cr, qE x.l.n, qE nc, qE n, qE cap, qE x_1.lk, qE x_1.lc, qE x_1.lo, qE x_1.ln, qE x_1.ct, qE cap, qL n, qF n x_1.g, qE w, qE w, qE x.p.lv, qE x.p.qt, qE x.p.qb, qE x.p.qr, qE x.p.qc, qE (IntKind.i64.wrap (x.p.ln + Int.ofNat 1)), qE x_2, qE x.p.t, qE cr, qL nr, qF nr x.st, qE nc, qL x.l.n, qF x.l.n x.l.v.k, qF x.l.n x.l.v.w, qF x.l.n x.l.v.t, qF x.l.n x.l.v.o, qF x.l.n x.l.v.l] V.ok)))))
    (V.br (x.p.ln == Int.ofNat 2)
    (nN [qE x.p.qt, qE n, qE cap, qE x.p.m.lk, qE x.p.m.lc, qE x.p.m.lo, qE x.p.m.ln, qE x.p.m.ct, qE cap, qL n, qF n x.p.m.g, qX (x.p.m.acc n (Int.ofNat 1) x.p.qt (x.p.m.val n x.p.qt))]
    (V.any Mm (fun (m' : Mm) => m' = x.p.m.acc n (Int.ofNat 1) x.p.qt (x.p.m.val n x.p.qt)) fun (x_1 : Mm) => nN [qX (x.p.m.val n x.p.qt)]
    (V.any Int (fun (v : Int) => v = x.p.m.val n x.p.qt) fun (x_2 : Int) => nN [(6, .lt2 0 1 0 1)]
    (V.br (decide (IntKind.i64.wrap (IntKind.u64.wrap (x.p.b - x_2)) ≤ Int.ofNat 0))
    (nN [(22, .lt2 0 1 0 1), qE w, qE y.W, qE y.bm, (1, .eqI 1 1)]
    (V.need (okAtT w y.W y.bm (Int.ofNat 1))
    (nN [qX (atM w y.W y.bm (Int.ofNat 1))]
    (V.any Int (fun (r : Int) => r = atM w y.W y.bm (Int.ofNat 1)) fun (x_3 : Int) => nN [(22, .lt2 0 1 0 1), qE y.W, qE y.L, qE y.C, qE y.T, qE y.D, qE y.H, qE y.sl, qE y.ep, qE y.bm, qE y.qu, qE y.tb, qE w, qE x.p.lv]
    (V.need (Ly.mk y.W y.L y.C y.T y.D y.H y.sl y.ep y.bm y.qu y.tb).small
    (nN [qX (quM (Ly.mk y.W y.L y.C y.T y.D y.H y.sl y.ep y.bm y.qu y.tb) w x.p.lv)]
    (V.any Qu (fun (q : Qu) => q = quM (Ly.mk y.W y.L y.C y.T y.D y.H y.sl y.ep y.bm y.qu y.tb) w x.p.lv) fun (x_4 : Qu) => nN [(4, .lt2 0 1 0 1)]
    (V.need (b 1 = false)
    (V.need (b 2 = true)
    (V.need (φ 2 (XTs.mk (XTa.mk (XPo.mk x.p.lv x_4.t x_4.b x_4.r x_4.c (Int.ofNat 1) (Int.ofNat 0) (Int.ofNat 0) 1 x_1) x.l x.st (Int.ofNat 0)) nc))
    (nN [qE y.W, qE y.L, qE y.C, qE y.T, qE y.D, qE y.H, qE y.sl, qE y.ep, qE y.bm, qE y.qu, qE y.tb, qE nr, qE cr, qE x.l.n, qE nc, qE n, qE cap, qE x_1.lk, qE x_1.lc, qE x_1.lo, qE x_1.ln, qE x_1.ct, qE cap, qL n, qF n x_1.g, qE w, qE w, qE x.p.lv]
    (V.need (x_3 = atM w y.W y.bm (Int.ofNat 1))
    (nN [qE x.p.lv, qE x_4.t, qE x_4.b, qE x_4.r, qE x_4.c, (1, .eqI 1 1), (1, .eqI 0 0), qE cr, qL nr, qF nr x.st, qE nc, qL x.l.n, qF x.l.n x.l.v.k, qF x.l.n x.l.v.w, qF x.l.n x.l.v.t, qF x.l.n x.l.v.o, qF x.l.n x.l.v.l] V.ok)))))))))))))
    (V.need (b 1 = true)
    (V.need (φ 1 (XTs.mk (XTa.mk (XPo.mk x.p.lv x.p.qt x.p.qb x.p.qr x.p.qc (IntKind.i64.wrap (x.p.ln + Int.ofNat 1)) x.p.b x_2 1 x_1) x.l x.st (Int.ofNat 0)) nc))
    (nN [qE y.W, qE y.L, qE y.C, qE y.T, qE y.D, qE y.H, qE y.sl, qE y.ep, qE y.bm, qE y.qu, qE y.tb, qE nr, qE cr, qE x.l.n, qE nc, qE n, qE cap, qE x_1.lk, qE x_1.lc, qE x_1.lo, qE x_1.ln, qE x_1.ct, qE cap, qL n, qF n x_1.g, qE w, qE w, qE x.p.lv, qE x.p.qt, qE x.p.qb, qE x.p.qr, qE x.p.qc, qE (IntKind.i64.wrap (x.p.ln + Int.ofNat 1)), qE x.p.b, qE x_2, qE cr, qL nr, qF nr x.st, qE nc, qL x.l.n, qF x.l.n x.l.v.k, qF x.l.n x.l.v.w, qF x.l.n x.l.v.t, qF x.l.n x.l.v.o, qF x.l.n x.l.v.l] V.ok)))))))
    (V.br (x.p.ln == Int.ofNat 3)
    (nN [(7, .lt2 0 1 0 1), qE x.p.qb, qE (IntKind.u64.wrap (x.p.b - Int.ofNat 1)), qE n, qE cap, qE x.p.m.lk, qE x.p.m.lc, qE x.p.m.lo, qE x.p.m.ln, qE x.p.m.ct, qE cap, qL n, qF n x.p.m.g, qX (x.p.m.acc n (Int.ofNat 2) x.p.qb (IntKind.u64.wrap (x.p.b - Int.ofNat 1)))]
    (V.any Mm (fun (m' : Mm) => m' = x.p.m.acc n (Int.ofNat 2) x.p.qb (IntKind.u64.wrap (x.p.b - Int.ofNat 1))) fun (x_1 : Mm) => V.need (b 1 = true)
    (V.need (φ 1 (XTs.mk (XTa.mk (XPo.mk x.p.lv x.p.qt x.p.qb x.p.qr x.p.qc (IntKind.i64.wrap (x.p.ln + Int.ofNat 1)) x.p.b x.p.t 1 x_1) x.l x.st (Int.ofNat 0)) nc))
    (nN [qE y.W, qE y.L, qE y.C, qE y.T, qE y.D, qE y.H, qE y.sl, qE y.ep, qE y.bm, qE y.qu, qE y.tb, qE nr, qE cr, qE x.l.n, qE nc, qE n, qE cap, qE x_1.lk, qE x_1.lc, qE x_1.lo, qE x_1.ln, qE x_1.ct, qE cap, qL n, qF n x_1.g, qE w, qE w, qE x.p.lv, qE x.p.qt, qE x.p.qb, qE x.p.qr, qE x.p.qc, qE (IntKind.i64.wrap (x.p.ln + Int.ofNat 1)), qE x.p.b, qE x.p.t, qE cr, qL nr, qF nr x.st, qE nc, qL x.l.n, qF x.l.n x.l.v.k, qF x.l.n x.l.v.w, qF x.l.n x.l.v.t, qF x.l.n x.l.v.o, qF x.l.n x.l.v.l] V.ok))))
    (V.br (x.p.ln == Int.ofNat 4)
    (nN [(7, .lt2 0 1 0 1), qE x.p.qt, qE n, qE cap, qE x.p.m.lk, qE x.p.m.lc, qE x.p.m.lo, qE x.p.m.ln, qE x.p.m.ct, qE cap, qL n, qF n x.p.m.g, qX (x.p.m.acc n (Int.ofNat 1) x.p.qt (x.p.m.val n x.p.qt))]
    (V.any Mm (fun (m' : Mm) => m' = x.p.m.acc n (Int.ofNat 1) x.p.qt (x.p.m.val n x.p.qt)) fun (x_1 : Mm) => nN [qX (x.p.m.val n x.p.qt)]
    (V.any Int (fun (v : Int) => v = x.p.m.val n x.p.qt) fun (x_2 : Int) => nN [(8, .lt2 0 1 0 1)]
    (V.br (decide (IntKind.i64.wrap (IntKind.u64.wrap (IntKind.u64.wrap (x.p.b - Int.ofNat 1) - x_2)) > Int.ofNat 0))
    (V.need (b 1 = true)
    (V.need (φ 1 (XTs.mk (XTa.mk (XPo.mk x.p.lv x.p.qt x.p.qb x.p.qr x.p.qc (Int.ofNat 5) x.p.b x_2 1 x_1) x.l x.st (Int.ofNat 0)) nc))
    (nN [qE y.W, qE y.L, qE y.C, qE y.T, qE y.D, qE y.H, qE y.sl, qE y.ep, qE y.bm, qE y.qu, qE y.tb, qE nr, qE cr, qE x.l.n, qE nc, qE n, qE cap, qE x_1.lk, qE x_1.lc, qE x_1.lo, qE x_1.ln, qE x_1.ct, qE cap, qL n, qF n x_1.g, qE w, qE w, qE x.p.lv, qE x.p.qt, qE x.p.qb, qE x.p.qr, qE x.p.qc, (1, .eqI 5 5), qE x.p.b, qE x_2, qE cr, qL nr, qF nr x.st, qE nc, qL x.l.n, qF x.l.n x.l.v.k, qF x.l.n x.l.v.w, qF x.l.n x.l.v.t, qF x.l.n x.l.v.o, qF x.l.n x.l.v.l] V.ok)))
    (V.br (IntKind.i64.wrap (IntKind.u64.wrap (IntKind.u64.wrap (x.p.b - Int.ofNat 1) - x_2)) == Int.ofNat 0)
    (V.need (b 1 = true)
    (V.need (φ 1 (XTs.mk (XTa.mk (XPo.mk x.p.lv x.p.qt x.p.qb x.p.qr x.p.qc (Int.ofNat 6) x.p.b x_2 1 x_1) x.l x.st (Int.ofNat 0)) nc))
    (nN [qE y.W, qE y.L, qE y.C, qE y.T, qE y.D, qE y.H, qE y.sl, qE y.ep, qE y.bm, qE y.qu, qE y.tb, qE nr, qE cr, qE x.l.n, qE nc, qE n, qE cap, qE x_1.lk, qE x_1.lc, qE x_1.lo, qE x_1.ln, qE x_1.ct, qE cap, qL n, qF n x_1.g, qE w, qE w, qE x.p.lv, qE x.p.qt, qE x.p.qb, qE x.p.qr, qE x.p.qc, (1, .eqI 6 6), qE x.p.b, qE x_2, qE cr, qL nr, qF nr x.st, qE nc, qL x.l.n, qF x.l.n x.l.v.k, qF x.l.n x.l.v.w, qF x.l.n x.l.v.t, qF x.l.n x.l.v.o, qF x.l.n x.l.v.l] V.ok)))
    (V.need (b 1 = true)
    (V.need (φ 1 (XTs.mk (XTa.mk (XPo.mk x.p.lv x.p.qt x.p.qb x.p.qr x.p.qc (Int.ofNat 9) x.p.b x_2 1 x_1) x.l x.st (Int.ofNat 0)) nc))
    (nN [qE y.W, qE y.L, qE y.C, qE y.T, qE y.D, qE y.H, qE y.sl, qE y.ep, qE y.bm, qE y.qu, qE y.tb, qE nr, qE cr, qE x.l.n, qE nc, qE n, qE cap, qE x_1.lk, qE x_1.lc, qE x_1.lo, qE x_1.ln, qE x_1.ct, qE cap, qL n, qF n x_1.g, qE w, qE w, qE x.p.lv, qE x.p.qt, qE x.p.qb, qE x.p.qr, qE x.p.qc, (1, .eqI 9 9), qE x.p.b, qE x_2, qE cr, qL nr, qF nr x.st, qE nc, qL x.l.n, qF x.l.n x.l.v.k, qF x.l.n x.l.v.w, qF x.l.n x.l.v.t, qF x.l.n x.l.v.o, qF x.l.n x.l.v.l] V.ok))))))))
    (V.br (x.p.ln == Int.ofNat 5)
    (V.need ((x.p.ln == Int.ofNat 5) = true)
    (nN [(11, .lt2 0 1 0 1), qE x.p.qt, qE x.p.qb, qE x.p.qr, qE x.p.qc, qE (IntKind.u64.wrap (x.p.b - Int.ofNat 1))]
    (V.need (x.p.qc ≤ Int.ofNat 9223372036854775807)
    (nN [qX (ringC x.p.qr x.p.qc (IntKind.u64.wrap (x.p.b - Int.ofNat 1)))]
    (V.any Int (fun (r : Int) => r = ringC x.p.qr x.p.qc (IntKind.u64.wrap (x.p.b - Int.ofNat 1))) fun (x_1 : Int) => nN [qE x_1, qE n, qE cap, qE x.p.m.lk, qE x.p.m.lc, qE x.p.m.lo, qE x.p.m.ln, qE x.p.m.ct, qE cap, qL n, qF n x.p.m.g, qX (x.p.m.acc n (Int.ofNat 1) x_1 (x.p.m.val n x_1))]
    (V.any Mm (fun (m' : Mm) => m' = x.p.m.acc n (Int.ofNat 1) x_1 (x.p.m.val n x_1)) fun (x_2 : Mm) => nN [qX (x.p.m.val n x_1)]
    (V.any Int (fun (v : Int) => v = x.p.m.val n x_1) fun (x_3 : Int) => nN [(12, .lt2 0 1 0 1)]
    (V.need (b 1 = false)
    (V.need (b 2 = false)
    (V.need (φ 3 (XTs.mk (XTa.mk (noPo 1 x_2) x.l x.st (IntKind.i64.wrap x_3)) nc))
    (nN [qE y.W, qE y.L, qE y.C, qE y.T, qE y.D, qE y.H, qE y.sl, qE y.ep, qE y.bm, qE y.qu, qE y.tb, qE nr, qE cr, qE x.l.n, qE nc, qE n, qE cap, qE x_2.lk, qE x_2.lc, qE x_2.lo, qE x_2.ln, qE x_2.ct, qE cap, qL n, qF n x_2.g, qE w, qE w, qE (IntKind.i64.wrap x_3), qE cr, qL nr, qF nr x.st, qE nc, qL x.l.n, qF x.l.n x.l.v.k, qF x.l.n x.l.v.w, qF x.l.n x.l.v.t, qF x.l.n x.l.v.o, qF x.l.n x.l.v.l] V.ok)))))))))))
    (V.br (x.p.ln == Int.ofNat 8)
    (nN [(11, .lt2 0 1 0 1), qE x.p.qt, qE x.p.qb, qE x.p.qr, qE x.p.qc, qE (IntKind.u64.wrap (x.p.b - Int.ofNat 1))]
    (V.need (x.p.qc ≤ Int.ofNat 9223372036854775807)
    (nN [qX (ringC x.p.qr x.p.qc (IntKind.u64.wrap (x.p.b - Int.ofNat 1)))]
    (V.any Int (fun (r : Int) => r = ringC x.p.qr x.p.qc (IntKind.u64.wrap (x.p.b - Int.ofNat 1))) fun (x_1 : Int) => nN [qE x_1, qE n, qE cap, qE x.p.m.lk, qE x.p.m.lc, qE x.p.m.lo, qE x.p.m.ln, qE x.p.m.ct, qE cap, qL n, qF n x.p.m.g, qX (x.p.m.acc n (Int.ofNat 1) x_1 (x.p.m.val n x_1))]
    (V.any Mm (fun (m' : Mm) => m' = x.p.m.acc n (Int.ofNat 1) x_1 (x.p.m.val n x_1)) fun (x_2 : Mm) => nN [qX (x.p.m.val n x_1)]
    (V.any Int (fun (v : Int) => v = x.p.m.val n x_1) fun (x_3 : Int) => nN [(12, .lt2 0 1 0 1)]
    (V.need (b 1 = false)
    (V.need (b 2 = false)
    (V.need (φ 3 (XTs.mk (XTa.mk (noPo 1 x_2) x.l x.st (IntKind.i64.wrap x_3)) nc))
    (nN [qE y.W, qE y.L, qE y.C, qE y.T, qE y.D, qE y.H, qE y.sl, qE y.ep, qE y.bm, qE y.qu, qE y.tb, qE nr, qE cr, qE x.l.n, qE nc, qE n, qE cap, qE x_2.lk, qE x_2.lc, qE x_2.lo, qE x_2.ln, qE x_2.ct, qE cap, qL n, qF n x_2.g, qE w, qE w, qE (IntKind.i64.wrap x_3), qE cr, qL nr, qF nr x.st, qE nc, qL x.l.n, qF x.l.n x.l.v.k, qF x.l.n x.l.v.w, qF x.l.n x.l.v.t, qF x.l.n x.l.v.o, qF x.l.n x.l.v.l] V.ok))))))))))
    (V.br (x.p.ln == Int.ofNat 6)
    (nN [(10, .lt2 0 1 0 1), qE x.p.qt, qE x.p.t, qE (IntKind.u64.wrap (x.p.t + Int.ofNat 1)), qE n, qE cap, qE x.p.m.lk, qE x.p.m.lc, qE x.p.m.lo, qE x.p.m.ln, qE x.p.m.ct, qE cap, qL n, qF n x.p.m.g, qX (x.p.m.acc n (Int.ofNat 3) x.p.qt (casV (x.p.m.hit n x.p.qt x.p.t) (x.p.m.val n x.p.qt) (IntKind.u64.wrap (x.p.t + Int.ofNat 1))))]
    (V.any Mm (fun (m' : Mm) => m' = x.p.m.acc n (Int.ofNat 3) x.p.qt (casV (x.p.m.hit n x.p.qt x.p.t) (x.p.m.val n x.p.qt) (IntKind.u64.wrap (x.p.t + Int.ofNat 1)))) fun (x_1 : Mm) => nN [qX (x.p.m.hit n x.p.qt x.p.t)]
    (V.any Bool (fun (v : Bool) => v = x.p.m.hit n x.p.qt x.p.t) fun (x_2 : Bool) => V.br (!x_2)
    (V.need (b 1 = true)
    (V.need (φ 1 (XTs.mk (XTa.mk (XPo.mk x.p.lv x.p.qt x.p.qb x.p.qr x.p.qc (Int.ofNat 9) x.p.b x.p.t 1 x_1) x.l x.st (Int.ofNat 0)) nc))
    (nN [qE y.W, qE y.L, qE y.C, qE y.T, qE y.D, qE y.H, qE y.sl, qE y.ep, qE y.bm, qE y.qu, qE y.tb, qE nr, qE cr, qE x.l.n, qE nc, qE n, qE cap, qE x_1.lk, qE x_1.lc, qE x_1.lo, qE x_1.ln, qE x_1.ct, qE cap, qL n, qF n x_1.g, qE w, qE w, qE x.p.lv, qE x.p.qt, qE x.p.qb, qE x.p.qr, qE x.p.qc, (1, .eqI 9 9), qE x.p.b, qE x.p.t, qE cr, qL nr, qF nr x.st, qE nc, qL x.l.n, qF x.l.n x.l.v.k, qF x.l.n x.l.v.w, qF x.l.n x.l.v.t, qF x.l.n x.l.v.o, qF x.l.n x.l.v.l] V.ok)))
    (V.need (b 1 = true)
    (V.need (φ 1 (XTs.mk (XTa.mk (XPo.mk x.p.lv x.p.qt x.p.qb x.p.qr x.p.qc (IntKind.i64.wrap (x.p.ln + Int.ofNat 1)) x.p.b x.p.t 1 x_1) x.l x.st (Int.ofNat 0)) nc))
    (nN [qE y.W, qE y.L, qE y.C, qE y.T, qE y.D, qE y.H, qE y.sl, qE y.ep, qE y.bm, qE y.qu, qE y.tb, qE nr, qE cr, qE x.l.n, qE nc, qE n, qE cap, qE x_1.lk, qE x_1.lc, qE x_1.lo, qE x_1.ln, qE x_1.ct, qE cap, qL n, qF n x_1.g, qE w, qE w, qE x.p.lv, qE x.p.qt, qE x.p.qb, qE x.p.qr, qE x.p.qc, qE (IntKind.i64.wrap (x.p.ln + Int.ofNat 1)), qE x.p.b, qE x.p.t, qE cr, qL nr, qF nr x.st, qE nc, qL x.l.n, qF x.l.n x.l.v.k, qF x.l.n x.l.v.w, qF x.l.n x.l.v.t, qF x.l.n x.l.v.o, qF x.l.n x.l.v.l] V.ok))))))
    (V.br (x.p.ln == Int.ofNat 7)
    (nN [(7, .lt2 0 1 0 1), qE x.p.qb, qE x.p.b, qE n, qE cap, qE x.p.m.lk, qE x.p.m.lc, qE x.p.m.lo, qE x.p.m.ln, qE x.p.m.ct, qE cap, qL n, qF n x.p.m.g, qX (x.p.m.acc n (Int.ofNat 2) x.p.qb x.p.b)]
    (V.any Mm (fun (m' : Mm) => m' = x.p.m.acc n (Int.ofNat 2) x.p.qb x.p.b) fun (x_1 : Mm) => V.need (b 1 = true)
    (V.need (φ 1 (XTs.mk (XTa.mk (XPo.mk x.p.lv x.p.qt x.p.qb x.p.qr x.p.qc (IntKind.i64.wrap (x.p.ln + Int.ofNat 1)) x.p.b x.p.t 1 x_1) x.l x.st (Int.ofNat 0)) nc))
    (nN [qE y.W, qE y.L, qE y.C, qE y.T, qE y.D, qE y.H, qE y.sl, qE y.ep, qE y.bm, qE y.qu, qE y.tb, qE nr, qE cr, qE x.l.n, qE nc, qE n, qE cap, qE x_1.lk, qE x_1.lc, qE x_1.lo, qE x_1.ln, qE x_1.ct, qE cap, qL n, qF n x_1.g, qE w, qE w, qE x.p.lv, qE x.p.qt, qE x.p.qb, qE x.p.qr, qE x.p.qc, qE (IntKind.i64.wrap (x.p.ln + Int.ofNat 1)), qE x.p.b, qE x.p.t, qE cr, qL nr, qF nr x.st, qE nc, qL x.l.n, qF x.l.n x.l.v.k, qF x.l.n x.l.v.w, qF x.l.n x.l.v.t, qF x.l.n x.l.v.o, qF x.l.n x.l.v.l] V.ok))))
    (nN [(7, .lt2 0 1 0 1), qE x.p.qb, qE x.p.b, qE n, qE cap, qE x.p.m.lk, qE x.p.m.lc, qE x.p.m.lo, qE x.p.m.ln, qE x.p.m.ct, qE cap, qL n, qF n x.p.m.g, qX (x.p.m.acc n (Int.ofNat 2) x.p.qb x.p.b)]
    (V.any Mm (fun (m' : Mm) => m' = x.p.m.acc n (Int.ofNat 2) x.p.qb x.p.b) fun (x_1 : Mm) => nN [(22, .lt2 0 1 0 1), qE w, qE y.W, qE y.bm, (1, .eqI 1 1)]
    (V.need (okAtT w y.W y.bm (Int.ofNat 1))
    (nN [qX (atM w y.W y.bm (Int.ofNat 1))]
    (V.any Int (fun (r : Int) => r = atM w y.W y.bm (Int.ofNat 1)) fun (x_2 : Int) => nN [(22, .lt2 0 1 0 1), qE y.W, qE y.L, qE y.C, qE y.T, qE y.D, qE y.H, qE y.sl, qE y.ep, qE y.bm, qE y.qu, qE y.tb, qE w, qE x.p.lv]
    (V.need (Ly.mk y.W y.L y.C y.T y.D y.H y.sl y.ep y.bm y.qu y.tb).small
    (nN [qX (quM (Ly.mk y.W y.L y.C y.T y.D y.H y.sl y.ep y.bm y.qu y.tb) w x.p.lv)]
    (V.any Qu (fun (q : Qu) => q = quM (Ly.mk y.W y.L y.C y.T y.D y.H y.sl y.ep y.bm y.qu y.tb) w x.p.lv) fun (x_3 : Qu) => nN [(4, .lt2 0 1 0 1)]
    (V.need (b 1 = false)
    (V.need (b 2 = true)
    (V.need (φ 2 (XTs.mk (XTa.mk (XPo.mk x.p.lv x_3.t x_3.b x_3.r x_3.c (Int.ofNat 1) (Int.ofNat 0) (Int.ofNat 0) 1 x_1) x.l x.st (Int.ofNat 0)) nc))
    (nN [qE y.W, qE y.L, qE y.C, qE y.T, qE y.D, qE y.H, qE y.sl, qE y.ep, qE y.bm, qE y.qu, qE y.tb, qE nr, qE cr, qE x.l.n, qE nc, qE n, qE cap, qE x_1.lk, qE x_1.lc, qE x_1.lo, qE x_1.ln, qE x_1.ct, qE cap, qL n, qF n x_1.g, qE w, qE w, qE x.p.lv]
    (V.need (x_2 = atM w y.W y.bm (Int.ofNat 1))
    (nN [qE x.p.lv, qE x_3.t, qE x_3.b, qE x_3.r, qE x_3.c, (1, .eqI 1 1), (1, .eqI 0 0), qE cr, qL nr, qF nr x.st, qE nc, qL x.l.n, qF x.l.n x.l.v.k, qF x.l.n x.l.v.w, qF x.l.n x.l.v.t, qF x.l.n x.l.v.o, qF x.l.n x.l.v.l] V.ok)))))))))))))))))))))) := by kernel_rfl

theorem verTs_2 (y : Ly) (n cap : Nat) (w : Int) (x : XTa) (nc nr cr : Nat) (b : Nat → Bool) (φ : Nat → XTs → Prop) : V.pr .z (verTs y n cap w 2 x nc nr cr b φ) =
  nN [qE x.p.lv]
    (V.need True
    (nN [qX (bitM x.p.lv)]
    (V.any Int (fun (r : Int) => r = bitM x.p.lv) fun (x_1 : Int) => V.br (x.p.ln == Int.ofNat 1)
    (nN [(6, .lt2 0 1 0 1), qE (atM w y.W y.bm (Int.ofNat 1))]
    (V.need (bits BinOp.xor IntKind.u64 (if IntKind.u64.signed = true then -Int.ofNat 1 else IntKind.u64.max) x_1 = bits BinOp.xor IntKind.u64 (if IntKind.u64.signed = true then -Int.ofNat 1 else IntKind.u64.max) x_1)
    (nN [qE n, qE cap, qE x.p.m.lk, qE x.p.m.lc, qE x.p.m.lo, qE x.p.m.ln, qE x.p.m.ct, qE cap, qL n, qF n x.p.m.g, qX (x.p.m.acc n (Int.ofNat 5) (atM w y.W y.bm (Int.ofNat 1)) (bits BinOp.and IntKind.u64 (x.p.m.val n (atM w y.W y.bm (Int.ofNat 1))) (bits BinOp.xor IntKind.u64 (if IntKind.u64.signed = true then -Int.ofNat 1 else IntKind.u64.max) x_1)))]
    (V.any Mm (fun (m' : Mm) => m' = x.p.m.acc n (Int.ofNat 5) (atM w y.W y.bm (Int.ofNat 1)) (bits BinOp.and IntKind.u64 (x.p.m.val n (atM w y.W y.bm (Int.ofNat 1))) (bits BinOp.xor IntKind.u64 (if IntKind.u64.signed = true then -Int.ofNat 1 else IntKind.u64.max) x_1))) fun (x_2 : Mm) => nN [qX (x.p.m.val n (atM w y.W y.bm (Int.ofNat 1)))]
    (V.any Int (fun (v : Int) => v = x.p.m.val n (atM w y.W y.bm (Int.ofNat 1))) fun (x_3 : Int) => V.need (b 2 = true)
    (V.need (φ 2 (XTs.mk (XTa.mk (XPo.mk x.p.lv x.p.qt x.p.qb x.p.qr x.p.qc (IntKind.i64.wrap (x.p.ln + Int.ofNat 1)) x.p.b (Int.ofNat 0) 1 x_2) x.l x.st (Int.ofNat 0)) nc))
    (nN [qE y.W, qE y.L, qE y.C, qE y.T, qE y.D, qE y.H, qE y.sl, qE y.ep, qE y.bm, qE y.qu, qE y.tb, qE nr, qE cr, qE x.l.n, qE nc, qE n, qE cap, qE x_2.lk, qE x_2.lc, qE x_2.lo, qE x_2.ln, qE x_2.ct, qE cap, qL n, qF n x_2.g, qE w, qE w, qE x.p.lv, qE (atM w y.W y.bm (Int.ofNat 1)), qE x.p.lv, qE x.p.qt, qE x.p.qb, qE x.p.qr, qE x.p.qc, qE (IntKind.i64.wrap (x.p.ln + Int.ofNat 1)), qE x.p.b, qE cr, qL nr, qF nr x.st, qE nc, qL x.l.n, qF x.l.n x.l.v.k, qF x.l.n x.l.v.w, qF x.l.n x.l.v.t, qF x.l.n x.l.v.o, qF x.l.n x.l.v.l] V.ok)))))))
    (V.br (x.p.ln == Int.ofNat 2)
    (nN [(7, .lt2 0 1 0 1), qE x.p.qb, qE n, qE cap, qE x.p.m.lk, qE x.p.m.lc, qE x.p.m.lo, qE x.p.m.ln, qE x.p.m.ct, qE cap, qL n, qF n x.p.m.g, qX (x.p.m.acc n (Int.ofNat 1) x.p.qb (x.p.m.val n x.p.qb))]
    (V.any Mm (fun (m' : Mm) => m' = x.p.m.acc n (Int.ofNat 1) x.p.qb (x.p.m.val n x.p.qb)) fun (x_2 : Mm) => nN [qX (x.p.m.val n x.p.qb)]
    (V.any Int (fun (v : Int) => v = x.p.m.val n x.p.qb) fun (x_3 : Int) => nN [(2, .lt2 0 1 0 1)]
    (V.need (b 2 = true)
    (V.need (φ 2 (XTs.mk (XTa.mk (XPo.mk x.p.lv x.p.qt x.p.qb x.p.qr x.p.qc (IntKind.i64.wrap (x.p.ln + Int.ofNat 1)) x_3 (Int.ofNat 0) 1 x_2) x.l x.st (Int.ofNat 0)) nc))
    (nN [qE y.W, qE y.L, qE y.C, qE y.T, qE y.D, qE y.H, qE y.sl, qE y.ep, qE y.bm, qE y.qu, qE y.tb, qE nr, qE cr, qE x.l.n, qE nc, qE n, qE cap, qE x_2.lk, qE x_2.lc, qE x_2.lo, qE x_2.ln, qE x_2.ct, qE cap, qL n, qF n x_2.g, qE w, qE w, qE x.p.lv, qE (atM w y.W y.bm (Int.ofNat 1)), qE x.p.lv, qE x.p.qt, qE x.p.qb, qE x.p.qr, qE x.p.qc, qE (IntKind.i64.wrap (x.p.ln + Int.ofNat 1)), qE x_3, qE cr, qL nr, qF nr x.st, qE nc, qL x.l.n, qF x.l.n x.l.v.k, qF x.l.n x.l.v.w, qF x.l.n x.l.v.t, qF x.l.n x.l.v.o, qF x.l.n x.l.v.l] V.ok))))))
    (V.br (x.p.ln == Int.ofNat 3)
    (nN [(7, .lt2 0 1 0 1), qE x.p.qt, qE n, qE cap, qE x.p.m.lk, qE x.p.m.lc, qE x.p.m.lo, qE x.p.m.ln, qE x.p.m.ct, qE cap, qL n, qF n x.p.m.g, qX (x.p.m.acc n (Int.ofNat 1) x.p.qt (x.p.m.val n x.p.qt))]
    (V.any Mm (fun (m' : Mm) => m' = x.p.m.acc n (Int.ofNat 1) x.p.qt (x.p.m.val n x.p.qt)) fun (x_2 : Mm) => nN [qX (x.p.m.val n x.p.qt)]
    (V.any Int (fun (v : Int) => v = x.p.m.val n x.p.qt) fun (x_3 : Int) => V.br (decide (IntKind.i64.wrap (IntKind.u64.wrap (x.p.b - x_3)) ≤ Int.ofNat 0))
    (nN [(6, .lt2 0 1 0 1)]
    (V.need (b 2 = false)
    (V.need (φ 0 (XTs.mk (XTa.mk (XPo.mk x.p.lv (Int.ofNat 0) (Int.ofNat 0) (Int.ofNat 0) (Int.ofNat 0) (Int.ofNat 0) (Int.ofNat 0) (Int.ofNat 0) 1 x_2) x.l x.st (Int.ofNat 0)) nc))
    (nN [qE y.W, qE y.L, qE y.C, qE y.T, qE y.D, qE y.H, qE y.sl, qE y.ep, qE y.bm, qE y.qu, qE y.tb, qE nr, qE cr, qE x.l.n, qE nc, qE n, qE cap, qE x_2.lk, qE x_2.lc, qE x_2.lo, qE x_2.ln, qE x_2.ct, qE cap, qL n, qF n x_2.g, qE w, qE w, qE x.p.lv, qE cr, qL nr, qF nr x.st, qE nc, qL x.l.n, qF x.l.n x.l.v.k, qF x.l.n x.l.v.w, qF x.l.n x.l.v.t, qF x.l.n x.l.v.o, qF x.l.n x.l.v.l] V.ok))))
    (V.need (b 2 = true)
    (V.need (φ 2 (XTs.mk (XTa.mk (XPo.mk x.p.lv x.p.qt x.p.qb x.p.qr x.p.qc (IntKind.i64.wrap (x.p.ln + Int.ofNat 1)) x.p.b (Int.ofNat 0) 1 x_2) x.l x.st (Int.ofNat 0)) nc))
    (nN [qE y.W, qE y.L, qE y.C, qE y.T, qE y.D, qE y.H, qE y.sl, qE y.ep, qE y.bm, qE y.qu, qE y.tb, qE nr, qE cr, qE x.l.n, qE nc, qE n, qE cap, qE x_2.lk, qE x_2.lc, qE x_2.lo, qE x_2.ln, qE x_2.ct, qE cap, qL n, qF n x_2.g, qE w, qE w, qE x.p.lv, qE (atM w y.W y.bm (Int.ofNat 1)), qE x.p.lv, qE x.p.qt, qE x.p.qb, qE x.p.qr, qE x.p.qc, qE (IntKind.i64.wrap (x.p.ln + Int.ofNat 1)), qE x.p.b, qE cr, qL nr, qF nr x.st, qE nc, qL x.l.n, qF x.l.n x.l.v.k, qF x.l.n x.l.v.w, qF x.l.n x.l.v.t, qF x.l.n x.l.v.o, qF x.l.n x.l.v.l] V.ok))))))
    (nN [(6, .lt2 0 1 0 1), qE (atM w y.W y.bm (Int.ofNat 1)), qE x_1, qE n, qE cap, qE x.p.m.lk, qE x.p.m.lc, qE x.p.m.lo, qE x.p.m.ln, qE x.p.m.ct, qE cap, qL n, qF n x.p.m.g, qX (x.p.m.acc n (Int.ofNat 4) (atM w y.W y.bm (Int.ofNat 1)) (bits BinOp.or IntKind.u64 (x.p.m.val n (atM w y.W y.bm (Int.ofNat 1))) x_1))]
    (V.any Mm (fun (m' : Mm) => m' = x.p.m.acc n (Int.ofNat 4) (atM w y.W y.bm (Int.ofNat 1)) (bits BinOp.or IntKind.u64 (x.p.m.val n (atM w y.W y.bm (Int.ofNat 1))) x_1)) fun (x_2 : Mm) => nN [qX (x.p.m.val n (atM w y.W y.bm (Int.ofNat 1)))]
    (V.any Int (fun (v : Int) => v = x.p.m.val n (atM w y.W y.bm (Int.ofNat 1))) fun (x_3 : Int) => nN [(6, .lt2 0 1 0 1)]
    (V.need (b 2 = false)
    (V.need (φ 0 (XTs.mk (XTa.mk (XPo.mk x.p.lv (Int.ofNat 0) (Int.ofNat 0) (Int.ofNat 0) (Int.ofNat 0) (Int.ofNat 0) (Int.ofNat 0) (Int.ofNat 0) 1 x_2) x.l x.st (Int.ofNat 0)) nc))
    (nN [qE y.W, qE y.L, qE y.C, qE y.T, qE y.D, qE y.H, qE y.sl, qE y.ep, qE y.bm, qE y.qu, qE y.tb, qE nr, qE cr, qE x.l.n, qE nc, qE n, qE cap, qE x_2.lk, qE x_2.lc, qE x_2.lo, qE x_2.ln, qE x_2.ct, qE cap, qL n, qF n x_2.g, qE w, qE w, qE x.p.lv, qE cr, qL nr, qF nr x.st, qE nc, qL x.l.n, qF x.l.n x.l.v.k, qF x.l.n x.l.v.w, qF x.l.n x.l.v.t, qF x.l.n x.l.v.o, qF x.l.n x.l.v.l] V.ok))))))))))) := by kernel_rfl

theorem verTs_3 (y : Ly) (n cap : Nat) (w : Int) (x : XTa) (nc nr cr : Nat) (b : Nat → Bool) (φ : Nat → XTs → Prop) : V.pr .z (verTs y n cap w 3 x nc nr cr b φ) =
  nN [(25, .lt2 0 1 0 1), qE x.v, qE y.T, qE (IntKind.i64.wrap (y.tb + Int.ofNat 0)), (1, .eqI 5 5)]
    (V.need (okAtT x.v y.T (IntKind.i64.wrap (y.tb + Int.ofNat 0)) (Int.ofNat 5))
    (nN [qX (atM x.v y.T (IntKind.i64.wrap (y.tb + Int.ofNat 0)) (Int.ofNat 5))]
    (V.any Int (fun (r : Int) => r = atM x.v y.T (IntKind.i64.wrap (y.tb + Int.ofNat 0)) (Int.ofNat 5)) fun (x_1 : Int) => nN [qE x_1, (1, .eqI 1 1), (1, .eqI 2 2), qE n, qE cap, qE x.p.m.lk, qE x.p.m.lc, qE x.p.m.lo, qE x.p.m.ln, qE x.p.m.ct, qE cap, qL n, qF n x.p.m.g, qX (x.p.m.acc n (Int.ofNat 3) x_1 (casV (x.p.m.hit n x_1 (Int.ofNat 1)) (x.p.m.val n x_1) (Int.ofNat 2)))]
    (V.any Mm (fun (m' : Mm) => m' = x.p.m.acc n (Int.ofNat 3) x_1 (casV (x.p.m.hit n x_1 (Int.ofNat 1)) (x.p.m.val n x_1) (Int.ofNat 2))) fun (x_2 : Mm) => nN [qX (x.p.m.hit n x_1 (Int.ofNat 1))]
    (V.any Bool (fun (v : Bool) => v = x.p.m.hit n x_1 (Int.ofNat 1)) fun (x_3 : Bool) => V.br (!x_3)
    (nN [(13, .lt2 0 1 0 1)]
    (V.need (x.l.n ≤ x.l.n ∧ nc = nc)
    (V.need (x.l.n + 1 ≤ 9223372036854775807 ∧ (x.l.n + 1) * 40 ≤ 140737488355328)
    (V.any Nat (fun (x_4 : Nat) => x.l.n + 1 ≤ x_4) fun (x_4 : Nat) => nN [(8, .lt2 0 1 0 1)]
    (V.need (b 4 = false)
    (V.need (φ 0 (XTs.mk (XTa.mk (XPo.mk (Int.ofNat 0) (Int.ofNat 0) (Int.ofNat 0) (Int.ofNat 0) (Int.ofNat 0) (Int.ofNat 0) (Int.ofNat 0) (Int.ofNat 0) 1 x_2) (El.mk (x.l.n + 1) (Evs.mk (fun (i : Nat) => if 0 = 0 ∧ i = x.l.n then Int.ofNat 15 else x.l.v.k i) (fun (i : Nat) => if 0 = 0 ∧ i = x.l.n then w else x.l.v.w i) (fun (i : Nat) => if 0 = 0 ∧ i = x.l.n then x.v else x.l.v.t i) (fun (i : Nat) => if 0 = 0 ∧ i = x.l.n then Int.ofNat 0 else x.l.v.o i) fun (i : Nat) => if 0 = 0 ∧ i = x.l.n then Int.ofNat 0 else x.l.v.l i)) x.st (Int.ofNat 0)) x_4))
    (nN [qE y.W, qE y.L, qE y.C, qE y.T, qE y.D, qE y.H, qE y.sl, qE y.ep, qE y.bm, qE y.qu, qE y.tb, qE nr, qE cr, qE (x.l.n + 1), qE x_4, qE n, qE cap, qE x_2.lk, qE x_2.lc, qE x_2.lo, qE x_2.ln, qE x_2.ct, qE cap, qL n, qF n x_2.g, qE w, qE w, (1, .eqI 0 0), qE cr, qL nr, qF nr x.st, qE x_4]
    (V.need (x.l.n + 1 ≤ x.l.n + 1)
    (V.need (∀ (e : Nat), e < x.l.n + 1 → (if 0 = 0 ∧ e = x.l.n then Int.ofNat 15 else x.l.v.k e) = if 0 = 0 ∧ e = x.l.n then Int.ofNat 15 else x.l.v.k e)
    (V.need (∀ (e : Nat), e < x.l.n + 1 → (if 0 = 0 ∧ e = x.l.n then w else x.l.v.w e) = if 0 = 0 ∧ e = x.l.n then w else x.l.v.w e)
    (V.need (∀ (e : Nat), e < x.l.n + 1 → (if 0 = 0 ∧ e = x.l.n then x.v else x.l.v.t e) = if 0 = 0 ∧ e = x.l.n then x.v else x.l.v.t e)
    (V.need (∀ (e : Nat), e < x.l.n + 1 → (if 0 = 0 ∧ e = x.l.n then Int.ofNat 0 else x.l.v.o e) = if 0 = 0 ∧ e = x.l.n then Int.ofNat 0 else x.l.v.o e)
    (V.need (∀ (e : Nat), e < x.l.n + 1 → (if 0 = 0 ∧ e = x.l.n then Int.ofNat 0 else x.l.v.l e) = if 0 = 0 ∧ e = x.l.n then Int.ofNat 0 else x.l.v.l e) V.ok)))))))))))))
    (nN [(6, .lt2 0 1 0 1)]
    (V.need (Int.ofNat 0 ≤ x.v ∧ x.v < (↑nr : Int))
    (V.need (0 < 1 ∧ 0 + x.v.toNat < nr)
    (V.need (0 + x.v.toNat < nr)
    (V.need (0 + x.v.toNat < nr)
    (V.need (0 + x.v.toNat < nr)
    (V.br (x.st (0 + x.v.toNat))
    (nN [(13, .lt2 0 1 0 1)]
    (V.need (x.l.n ≤ x.l.n ∧ nc = nc)
    (V.need (x.l.n + 1 ≤ 9223372036854775807 ∧ (x.l.n + 1) * 40 ≤ 140737488355328)
    (V.any Nat (fun (x_4 : Nat) => x.l.n + 1 ≤ x_4) fun (x_4 : Nat) => nN [(13, .lt2 0 1 0 1)]
    (V.need (b 4 = true)
    (V.need (φ 4 (XTs.mk (XTa.mk (noPo 1 x_2) (El.mk (x.l.n + 1) (Evs.mk (fun (i : Nat) => if 0 = 0 ∧ i = x.l.n then Int.ofNat 9 else x.l.v.k i) (fun (i : Nat) => if 0 = 0 ∧ i = x.l.n then w else x.l.v.w i) (fun (i : Nat) => if 0 = 0 ∧ i = x.l.n then x.v else x.l.v.t i) (fun (i : Nat) => if 0 = 0 ∧ i = x.l.n then Int.ofNat 0 else x.l.v.o i) fun (i : Nat) => if 0 = 0 ∧ i = x.l.n then Int.ofNat 0 else x.l.v.l i)) x.st x.v) x_4))
    (nN [qE y.W, qE y.L, qE y.C, qE y.T, qE y.D, qE y.H, qE y.sl, qE y.ep, qE y.bm, qE y.qu, qE y.tb, qE nr, qE cr, qE (x.l.n + 1), qE x_4, qE n, qE cap, qE x_2.lk, qE x_2.lc, qE x_2.lo, qE x_2.ln, qE x_2.ct, qE cap, qL n, qF n x_2.g, qE x.v, qE cr, qL nr, qF nr x.st, qE x_4]
    (V.need (x.l.n + 1 ≤ x.l.n + 1)
    (V.need (∀ (e : Nat), e < x.l.n + 1 → (if 0 = 0 ∧ e = x.l.n then Int.ofNat 9 else x.l.v.k e) = if 0 = 0 ∧ e = x.l.n then Int.ofNat 9 else x.l.v.k e)
    (V.need (∀ (e : Nat), e < x.l.n + 1 → (if 0 = 0 ∧ e = x.l.n then w else x.l.v.w e) = if 0 = 0 ∧ e = x.l.n then w else x.l.v.w e)
    (V.need (∀ (e : Nat), e < x.l.n + 1 → (if 0 = 0 ∧ e = x.l.n then x.v else x.l.v.t e) = if 0 = 0 ∧ e = x.l.n then x.v else x.l.v.t e)
    (V.need (∀ (e : Nat), e < x.l.n + 1 → (if 0 = 0 ∧ e = x.l.n then Int.ofNat 0 else x.l.v.o e) = if 0 = 0 ∧ e = x.l.n then Int.ofNat 0 else x.l.v.o e)
    (V.need (∀ (e : Nat), e < x.l.n + 1 → (if 0 = 0 ∧ e = x.l.n then Int.ofNat 0 else x.l.v.l e) = if 0 = 0 ∧ e = x.l.n then Int.ofNat 0 else x.l.v.l e) V.ok)))))))))))))
    (V.need (0 + x.v.toNat < nr)
    (V.need (0 + x.v.toNat < nr)
    (V.need (0 + x.v.toNat < nr)
    (nN [(13, .lt2 0 1 0 1)]
    (V.need (x.l.n ≤ x.l.n ∧ nc = nc)
    (V.need (x.l.n + 1 ≤ 9223372036854775807 ∧ (x.l.n + 1) * 40 ≤ 140737488355328)
    (V.any Nat (fun (x_4 : Nat) => x.l.n + 1 ≤ x_4) fun (x_4 : Nat) => nN [(13, .lt2 0 1 0 1)]
    (V.need (b 4 = true)
    (V.need (φ 4 (XTs.mk (XTa.mk (noPo 1 x_2) (El.mk (x.l.n + 1) (Evs.mk (fun (i : Nat) => if 0 = 0 ∧ i = x.l.n then Int.ofNat 5 else x.l.v.k i) (fun (i : Nat) => if 0 = 0 ∧ i = x.l.n then w else x.l.v.w i) (fun (i : Nat) => if 0 = 0 ∧ i = x.l.n then x.v else x.l.v.t i) (fun (i : Nat) => if 0 = 0 ∧ i = x.l.n then Int.ofNat 0 else x.l.v.o i) fun (i : Nat) => if 0 = 0 ∧ i = x.l.n then Int.ofNat 0 else x.l.v.l i)) (fun (i : Nat) => if 0 = 0 ∧ i = 0 + x.v.toNat then true else x.st i) x.v) x_4))
    (nN [qE y.W, qE y.L, qE y.C, qE y.T, qE y.D, qE y.H, qE y.sl, qE y.ep, qE y.bm, qE y.qu, qE y.tb, qE nr, qE cr, qE (x.l.n + 1), qE x_4, qE n, qE cap, qE x_2.lk, qE x_2.lc, qE x_2.lo, qE x_2.ln, qE x_2.ct, qE cap, qL n, qF n x_2.g, qE x.v, qE cr, qL nr]
    (V.need (∀ (e : Nat), e < nr → (if 0 = 0 ∧ e = 0 + x.v.toNat then true else x.st e) = if 0 = 0 ∧ e = 0 + x.v.toNat then true else x.st e)
    (nN [qE x_4]
    (V.need (x.l.n + 1 ≤ x.l.n + 1)
    (V.need (∀ (e : Nat), e < x.l.n + 1 → (if 0 = 0 ∧ e = x.l.n then Int.ofNat 5 else x.l.v.k e) = if 0 = 0 ∧ e = x.l.n then Int.ofNat 5 else x.l.v.k e)
    (V.need (∀ (e : Nat), e < x.l.n + 1 → (if 0 = 0 ∧ e = x.l.n then w else x.l.v.w e) = if 0 = 0 ∧ e = x.l.n then w else x.l.v.w e)
    (V.need (∀ (e : Nat), e < x.l.n + 1 → (if 0 = 0 ∧ e = x.l.n then x.v else x.l.v.t e) = if 0 = 0 ∧ e = x.l.n then x.v else x.l.v.t e)
    (V.need (∀ (e : Nat), e < x.l.n + 1 → (if 0 = 0 ∧ e = x.l.n then Int.ofNat 0 else x.l.v.o e) = if 0 = 0 ∧ e = x.l.n then Int.ofNat 0 else x.l.v.o e)
    (V.need (∀ (e : Nat), e < x.l.n + 1 → (if 0 = 0 ∧ e = x.l.n then Int.ofNat 0 else x.l.v.l e) = if 0 = 0 ∧ e = x.l.n then Int.ofNat 0 else x.l.v.l e) V.ok)))))))))))))))))))))))))))))) := by kernel_rfl


end Go.Proofs.Ytomaagmleafjeaa.Md

/- A step of Take: the conditions hold. -/
set_option maxRecDepth 100000
namespace Go.Proofs.Ytomaagmleafjeaa.Md
open Go Go.RowKit Sx Cn Dc Ck Vc
/-- Which state a step leads to: what is tested. -/
def bTs (y : Ly) (n : Nat) (w : Int) (q : Nat) (x : XTa) (r : Nat) : Bool := match q with
  | 0 => decide (x.p.m.val n (atM w y.W y.bm 1) = 0)
  | 1 => if r = 1 then decide (x.p.ln = 1 ∨ (x.p.ln = 2 ∧ ¬ sz x.p.b (x.p.m.val n x.p.qt) ≤ 0) ∨ x.p.ln = 3 ∨ x.p.ln = 4 ∨ x.p.ln = 6 ∨ x.p.ln = 7) else decide (¬ (x.p.ln = 5 ∨ x.p.ln = 8))
  | 2 => decide (x.p.ln = 1 ∨ x.p.ln = 2 ∨ (x.p.ln = 3 ∧ ¬ sz x.p.b (x.p.m.val n x.p.qt) ≤ 0))
  | _ => x.p.m.hit n (stA y x.v) 1
/-- The numbers of a machine in state q are as they should be. -/
def okS (y : Ly) (w : Int) (q : Nat) (x : XTa) : Prop := (∀ e, 0 ≤ x.p.m.g e ∧ x.p.m.g e ≤ 18446744073709551615) ∧ (q = 1 ∨ q = 2 → (0 ≤ x.p.b ∧ x.p.b ≤ 18446744073709551615) ∧ (0 ≤ x.p.t ∧ x.p.t ≤ 18446744073709551615) ∧ x.p.qt = (quM y w x.p.lv).t ∧ x.p.qb = (quM y w x.p.lv).b ∧ x.p.qc = (quM y w x.p.lv).c)
/-- The states of the tasks: as they were, but of the one that is claimed. -/
def kpS (y : Ly) (q : Nat) (x z : XTa) : Prop := ∀ e : Nat, y.tb ≤ e → z.p.m.g e = x.p.m.g e ∨ (q = 4 ∧ (0 ≤ z.v ∧ z.v < y.T) ∧ (e : Int) = stA y z.v ∧ x.p.m.g e = 1 ∧ z.p.m.g e = 2)
def gtS (y : Ly) (q : Nat) (x z : XTa) : Prop := q = 4 → (0 ≤ z.v ∧ z.v < y.T) ∧ x.p.m.g (stA y z.v).toNat = 1 ∧ z.p.m.g (stA y z.v).toNat = 2
def φTs (y : Ly) (w : Int) (x : XTa) (q : Nat) (z : XTs) : Prop := okS y w q z.x ∧ kpS y q x z.x ∧ gtS y q x z.x ∧ z.x.l.n ≤ z.nc ∧ z.x.l.n ≤ x.l.n + 1
structure TsOK (y : Ly) (n : Nat) (w : Int) (nr : Nat) : Prop where
  a : TaOK y w
  q : ∀ l, (quM y w l).t < y.tb ∧ (quM y w l).b < y.tb
  b : atM w y.W y.bm 1 < y.tb
  s : ∀ v : Int, ¬ (0 ≤ v ∧ v < y.T) → stA y v < 0
  n : ∀ v : Int, 0 ≤ v → v < y.T → y.tb ≤ stA y v ∧ stA y v < n ∧ 0 ≤ stA y v
  r : y.T = nr
theorem phi_i {y : Ly} {w : Int} {x : XTa} {q : Nat} {z : XTa} {nc : Nat} (h1 : ∀ e, 0 ≤ z.p.m.g e ∧ z.p.m.g e ≤ 18446744073709551615) (h2 : q = 1 ∨ q = 2 → (0 ≤ z.p.b ∧ z.p.b ≤ 18446744073709551615) ∧ (0 ≤ z.p.t ∧ z.p.t ≤ 18446744073709551615) ∧ z.p.qt = (quM y w z.p.lv).t ∧ z.p.qb = (quM y w z.p.lv).b ∧ z.p.qc = (quM y w z.p.lv).c)
    (h3 : ∀ e : Nat, y.tb ≤ e → z.p.m.g e = x.p.m.g e) (h4 : q ≠ 4) (h5 : z.l.n ≤ nc) (h6 : z.l.n ≤ x.l.n + 1) : φTs y w x q ⟨z, nc⟩ :=
  ⟨⟨h1, h2⟩, fun e he => .inl (h3 e he), fun hq => absurd hq h4, h5, h6⟩
set_option maxHeartbeats 16000000 in
theorem vhTs0 {y : Ly} {n cap : Nat} {w : Int} {x : XTa} {nc nr cr : Nat} (hy : TsOK y n w nr) (hx : okS y w 0 x) (hl : x.l.n ≤ nc ∧ x.l.n ≤ 1000) : VHolds (verTs y n cap w 0 x nc nr cr (bTs y n w 0 x) (φTs y w x)) := by
  refine VHolds.pr (verTs_0 ..) ?_
  obtain ⟨hm, -⟩ := hx
  have hwb : (0 : Int) ≤ 0 ∧ (0 : Int) ≤ 18446744073709551615 := by decide
  have hwt := hwb
  have hqt : True := trivial
  have hqb := hqt
  have hqc := hqt
  have hb := hy.b
  (repeat' first | with_reducible exact V.okI | with_reducible refine V.brT ?_ | with_reducible refine V.brF ?_ | with_reducible refine V.brI ?_ ?_ | with_reducible refine V.anyI ?_ | with_reducible refine nN_h rfl ?_ | with_reducible refine V.needI ?_ ?_ | with_reducible intro _)
  all_goals subst_vars
  all_goals simp only [bTs, Int.ofNat_eq_natCast, Int.cast_ofNat_Int, Int.natCast_zero, Int.natCast_one, decide_eq_true_eq, decide_eq_false_iff_not, beq_iff_eq, beq_eq_false_iff_ne, Mm.eta, Bool.not_eq_true', Bool.not_eq_false', gt_iff_lt, bne_iff_ne, bne_eq_false_iff_eq, ne_eq, true_and, Nat.zero_add] at *
  all_goals first
    | with_reducible rfl
    | assumption
    | omega
    | exact hy.a.W
    | exact hy.a.s
    | exact hy.a.T _
    | exact Mm.ok_val hm
    | exact ⟨Nat.le_refl _, trivial⟩
    | (refine phi_i ?_ ?_ ?_ ?_ ?_ ?_
       · dsimp only [noPo]
         intro e
         repeat' first
           | exact hm _
           | exact hm
           | exact hwb
           | exact wrap_ok _
           | exact casV_ok (Mm.ok_val hm) (wrap_ok _)
           | exact bits_ok _
           | exact Mm.ok_val hm
           | with_reducible refine Mm.ok_acc ?_ ?_ _
       · dsimp only [noPo]
         intro hq
         first
           | (exfalso; omega)
           | (refine ⟨?_, ?_, ?_, ?_, ?_⟩ <;> first | exact hwb | exact hwt | exact Mm.ok_val hm | exact hqt | exact hqb | exact hqc | rfl | (constructor <;> decide) | decide)
       · dsimp only [noPo]
         intro e he
         first
           | exact Mm.acc_ld _
           | exact Mm.acc_ne (by omega)
       · decide
       · dsimp only [noPo]
         omega
       · dsimp only [noPo]
         omega)
    | (rw [if_pos trivial]; first | exact decide_eq_true (by unfold sz; omega) | exact decide_eq_false (by unfold sz; omega))
    | (rw [if_neg (by decide)]; first | exact decide_eq_true (by omega) | exact decide_eq_false (by omega))
    | (unfold sz; omega)
set_option maxHeartbeats 16000000 in
theorem vhTs1 {y : Ly} {n cap : Nat} {w : Int} {x : XTa} {nc nr cr : Nat} (hy : TsOK y n w nr) (hx : okS y w 1 x) (hl : x.l.n ≤ nc ∧ x.l.n ≤ 1000) : VHolds (verTs y n cap w 1 x nc nr cr (bTs y n w 1 x) (φTs y w x)) := by
  refine VHolds.pr (verTs_1 ..) ?_
  obtain ⟨hm, hx⟩ := hx
  obtain ⟨hwb, hwt, hqt, hqb, hqc⟩ := hx (by decide)
  clear hx
  have hq1 := (hy.q x.p.lv).1
  have hq2 := (hy.q x.p.lv).2
  have hq3 := quM_c hy.a.s w x.p.lv
  rw [← hqt] at hq1
  rw [← hqb] at hq2
  rw [← hqc] at hq3
  have hb := hy.b
  (repeat' first | with_reducible exact V.okI | with_reducible refine V.brT ?_ | with_reducible refine V.brF ?_ | with_reducible refine V.brI ?_ ?_ | with_reducible refine V.anyI ?_ | with_reducible refine nN_h rfl ?_ | with_reducible refine V.needI ?_ ?_ | with_reducible intro _)
  all_goals subst_vars
  all_goals simp only [bTs, Int.ofNat_eq_natCast, Int.cast_ofNat_Int, Int.natCast_zero, Int.natCast_one, decide_eq_true_eq, decide_eq_false_iff_not, beq_iff_eq, beq_eq_false_iff_ne, Mm.eta, Bool.not_eq_true', Bool.not_eq_false', gt_iff_lt, bne_iff_ne, bne_eq_false_iff_eq, ne_eq, true_and, Nat.zero_add] at *
  all_goals first
    | with_reducible rfl
    | assumption
    | omega
    | exact hy.a.W
    | exact hy.a.s
    | exact hy.a.T _
    | exact Mm.ok_val hm
    | exact ⟨Nat.le_refl _, trivial⟩
    | (refine phi_i ?_ ?_ ?_ ?_ ?_ ?_
       · dsimp only [noPo]
         intro e
         repeat' first
           | exact hm _
           | exact hm
           | exact hwb
           | exact wrap_ok _
           | exact casV_ok (Mm.ok_val hm) (wrap_ok _)
           | exact bits_ok _
           | exact Mm.ok_val hm
           | with_reducible refine Mm.ok_acc ?_ ?_ _
       · dsimp only [noPo]
         intro hq
         first
           | (exfalso; omega)
           | (refine ⟨?_, ?_, ?_, ?_, ?_⟩ <;> first | exact hwb | exact hwt | exact Mm.ok_val hm | exact hqt | exact hqb | exact hqc | rfl | (constructor <;> decide) | decide)
       · dsimp only [noPo]
         intro e he
         first
           | exact Mm.acc_ld _
           | exact Mm.acc_ne (by omega)
       · decide
       · dsimp only [noPo]
         omega
       · dsimp only [noPo]
         omega)
    | (rw [if_pos trivial]; first | exact decide_eq_true (by unfold sz; omega) | exact decide_eq_false (by unfold sz; omega))
    | (rw [if_neg (by decide)]; first | exact decide_eq_true (by omega) | exact decide_eq_false (by omega))
    | (unfold sz; omega)
set_option maxHeartbeats 16000000 in
theorem vhTs2 {y : Ly} {n cap : Nat} {w : Int} {x : XTa} {nc nr cr : Nat} (hy : TsOK y n w nr) (hx : okS y w 2 x) (hl : x.l.n ≤ nc ∧ x.l.n ≤ 1000) : VHolds (verTs y n cap w 2 x nc nr cr (bTs y n w 2 x) (φTs y w x)) := by
  refine VHolds.pr (verTs_2 ..) ?_
  obtain ⟨hm, hx⟩ := hx
  obtain ⟨hwb, hwt, hqt, hqb, hqc⟩ := hx (by decide)
  clear hx
  have hq1 := (hy.q x.p.lv).1
  have hq2 := (hy.q x.p.lv).2
  have hq3 := quM_c hy.a.s w x.p.lv
  rw [← hqt] at hq1
  rw [← hqb] at hq2
  rw [← hqc] at hq3
  have hb := hy.b
  (repeat' first | with_reducible exact V.okI | with_reducible refine V.brT ?_ | with_reducible refine V.brF ?_ | with_reducible refine V.brI ?_ ?_ | with_reducible refine V.anyI ?_ | with_reducible refine nN_h rfl ?_ | with_reducible refine V.needI ?_ ?_ | with_reducible intro _)
  all_goals subst_vars
  all_goals simp only [bTs, Int.ofNat_eq_natCast, Int.cast_ofNat_Int, Int.natCast_zero, Int.natCast_one, decide_eq_true_eq, decide_eq_false_iff_not, beq_iff_eq, beq_eq_false_iff_ne, Mm.eta, Bool.not_eq_true', Bool.not_eq_false', gt_iff_lt, bne_iff_ne, bne_eq_false_iff_eq, ne_eq, true_and, Nat.zero_add] at *
  all_goals first
    | with_reducible rfl
    | assumption
    | omega
    | exact hy.a.W
    | exact hy.a.s
    | exact hy.a.T _
    | exact Mm.ok_val hm
    | exact ⟨Nat.le_refl _, trivial⟩
    | (refine phi_i ?_ ?_ ?_ ?_ ?_ ?_
       · dsimp only [noPo]
         intro e
         repeat' first
           | exact hm _
           | exact hm
           | exact hwb
           | exact wrap_ok _
           | exact casV_ok (Mm.ok_val hm) (wrap_ok _)
           | exact bits_ok _
           | exact Mm.ok_val hm
           | with_reducible refine Mm.ok_acc ?_ ?_ _
       · dsimp only [noPo]
         intro hq
         first
           | (exfalso; omega)
           | (refine ⟨?_, ?_, ?_, ?_, ?_⟩ <;> first | exact hwb | exact hwt | exact Mm.ok_val hm | exact hqt | exact hqb | exact hqc | rfl | (constructor <;> decide) | decide)
       · dsimp only [noPo]
         intro e he
         first
           | exact Mm.acc_ld _
           | exact Mm.acc_ne (by omega)
       · decide
       · dsimp only [noPo]
         omega
       · dsimp only [noPo]
         omega)
    | (rw [if_pos trivial]; first | exact decide_eq_true (by unfold sz; omega) | exact decide_eq_false (by unfold sz; omega))
    | (rw [if_neg (by decide)]; first | exact decide_eq_true (by omega) | exact decide_eq_false (by omega))
    | (unfold sz; omega)
theorem hit_neg {m : Mm} {n : Nat} {a v : Int} (h : a < 0) : m.hit n a v = false := by
  unfold Mm.hit inb
  rw [decide_eq_false (by omega : ¬ 0 ≤ a)]
  rfl
theorem ts_rng {y : Ly} {n : Nat} {w : Int} {nr : Nat} {x : XTa} (hy : TsOK y n w nr) (hh : x.p.m.hit n (stA y x.v) 1 = true) : 0 ≤ x.v ∧ x.v < y.T := Classical.byContradiction fun c => by
  rw [hit_neg (hy.s _ c)] at hh
  cases hh
theorem phi_c {y : Ly} {n : Nat} {w : Int} {nr : Nat} {x z : XTa} {nc : Nat} (hy : TsOK y n w nr) (hm : ∀ e, 0 ≤ x.p.m.g e ∧ x.p.m.g e ≤ 18446744073709551615) (hh : x.p.m.hit n (stA y x.v) 1 = true)
    (hz : z.p.m = x.p.m.acc n 3 (stA y x.v) (casV (x.p.m.hit n (stA y x.v) 1) (x.p.m.val n (stA y x.v)) 2)) (hv : z.v = x.v) (hl : z.l.n ≤ nc) (hl2 : z.l.n ≤ x.l.n + 1) : φTs y w x 4 ⟨z, nc⟩ := by
  have hr := ts_rng hy hh
  obtain ⟨n1, n2, n3⟩ := hy.n x.v hr.1 hr.2
  have h1 : x.p.m.g (stA y x.v).toNat = 1 := by
    rw [Mm.hit_val n3 n2] at hh
    exact of_decide_eq_true hh
  have h2 : ∀ e : Nat, (e : Int) = stA y x.v → z.p.m.g e = 2 := fun e he => by
    rw [hz, hh, Mm.acc_eq n3 n2 he]
    rfl
  refine ⟨⟨fun e => ?_, fun q => absurd q (by decide)⟩, fun e he => ?_, fun _ => ⟨by rw [hv]; exact hr, by rw [hv]; exact h1, by rw [hv]; exact h2 _ (by omega)⟩, hl, hl2⟩
  · show 0 ≤ z.p.m.g e ∧ _
    rw [hz]
    exact Mm.ok_acc hm (casV_ok (Mm.ok_val hm) (by decide)) e
  · show z.p.m.g e = _ ∨ _
    by_cases c : (e : Int) = stA y x.v
    · exact .inr ⟨rfl, by rw [hv]; exact hr, by rw [hv]; exact c, by rw [show e = (stA y x.v).toNat by omega]; exact h1, h2 e c⟩
    · exact .inl (by rw [hz]; exact Mm.acc_ne c)
set_option maxHeartbeats 16000000 in
theorem vhTs3 {y : Ly} {n cap : Nat} {w : Int} {x : XTa} {nc nr cr : Nat} (hy : TsOK y n w nr) (hx : okS y w 3 x) (hl : x.l.n ≤ nc ∧ x.l.n ≤ 1000) : VHolds (verTs y n cap w 3 x nc nr cr (bTs y n w 3 x) (φTs y w x)) := by
  refine VHolds.pr (verTs_3 ..) ?_
  obtain ⟨hm, -⟩ := hx
  have hr := hy.r
  have hrng : x.p.m.hit n (atM x.v y.T (IntKind.i64.wrap (y.tb + 0)) 5) 1 = true → 0 ≤ x.v ∧ x.v < y.T := fun q => ts_rng hy q
  (repeat' first | with_reducible exact V.okI | with_reducible refine V.brT ?_ | with_reducible refine V.brF ?_ | with_reducible refine V.brI ?_ ?_ | with_reducible refine V.anyI ?_ | with_reducible refine nN_h rfl ?_ | with_reducible refine V.needI ?_ ?_ | with_reducible intro _)
  all_goals subst_vars
  all_goals simp only [bTs, Int.ofNat_eq_natCast, Int.cast_ofNat_Int, Int.natCast_zero, Int.natCast_one, decide_eq_true_eq, decide_eq_false_iff_not, beq_iff_eq, beq_eq_false_iff_ne, Mm.eta, Bool.not_eq_true', Bool.not_eq_false', gt_iff_lt, bne_iff_ne, bne_eq_false_iff_eq, ne_eq, true_and, Nat.zero_add] at *
  all_goals first
    | with_reducible rfl
    | assumption
    | omega
    | exact hy.a.W
    | exact hy.a.s
    | exact hy.a.T _
    | exact Mm.ok_val hm
    | exact ⟨Nat.le_refl _, trivial⟩
    | (have := hrng (by assumption); omega)
    | exact ⟨Nat.zero_lt_one, by have := hrng (by assumption); omega⟩
    | exact (by assumption : x.p.m.hit n (atM x.v y.T (IntKind.i64.wrap (y.tb + 0)) 5) 1 = _)
    | (refine phi_c hy hm (by assumption : x.p.m.hit n (atM x.v y.T (IntKind.i64.wrap (y.tb + 0)) 5) 1 = true) rfl rfl ?_ ?_
       · dsimp only; omega
       · dsimp only; omega)
    | (refine phi_i ?_ ?_ ?_ ?_ ?_ ?_
       · dsimp only [noPo]
         exact fun e => Mm.ok_acc hm (casV_ok (Mm.ok_val hm) (by decide)) e
       · dsimp only
         intro hq
         omega
       · dsimp only
         intro e he
         have hf : x.p.m.hit n (atM x.v y.T (IntKind.i64.wrap (y.tb + 0)) 5) 1 = false := by assumption
         rw [hf, casV_f]
         exact Mm.acc_ld _
       · decide
       · dsimp only
         omega
       · dsimp only
         omega)
end Go.Proofs.Ytomaagmleafjeaa.Md
