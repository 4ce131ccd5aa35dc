/- Push of levels, alone: the conditions, printed by program. -/
import Derived.Test.YtomaagmleafjeaaMMdPuD
import Derived.Test.YtomaagmleafjeaaMW
import Derived.Test.YtomaagmleafjeaaMMdPop
import Derived.Test.YtomaagmleafjeaaMMd
set_option linter.unusedVariables false
set_option linter.unusedSimpArgs false
set_option maxRecDepth 100000
namespace Go.Proofs.Ytomaagmleafjeaa.Md
open Go Go.RowKit Sx Cn Dc Ck Vc

set_option maxHeartbeats 8000000 in
theorem verPu_eq (y : Ly) (n cap : Nat) (w l v : Int) (M : Nat) (m : Mm) : verPu y n cap w l v M m =
  V.need (0 < 3 ∧ 0 ≤ M ∧ Int.ofNat 0 ≤ Int.ofNat 9223372036854775807 ∧ puRun y n w l v (M - 0) (0, XPu.mk (Int.ofNat 0) (Int.ofNat 0) (Int.ofNat 0) (Int.ofNat 0) (Int.ofNat 0) (Int.ofNat 0) 0 (Mm.mk (fun (e : Nat) => m.g e) m.lk m.lc m.lo m.ln m.ct)) = puR y n w l v M m)
    (V.need (Int.ofNat 0 = (↑0 : Int))
    (nN [(1, .pf (w = w) rfl), (1, .pf (l = l) rfl), (1, .pf (v = v) rfl), (1, .pf (n = n) rfl), (1, .pf (cap = cap) rfl), (1, .pf (m.lk = m.lk) rfl), (1, .pf (m.lc = m.lc) rfl), (1, .pf (m.lo = m.lo) rfl), (1, .pf (m.ln = m.ln) rfl), (1, .pf (m.ct = m.ct) rfl), (1, .pf (cap = cap) rfl), (1, .pf (n ≤ n) (Nat.le_refl _)), (1, .pf (∀ (e : Nat), e < n → m.g e = m.g e) (by intros; rfl))]
    (V.need (∀ (i : Nat), i < 0 → 0 ≤ 0 ∧ 0 ≤ 0)
    (V.need (∀ (x : Nat × XPu), x.fst < 3 ∧ x.snd.k ≤ M ∧ x.snd.qc ≤ Int.ofNat 9223372036854775807 ∧ puRun y n w l v (M - x.snd.k) x = puR y n w l v M m → x.fst < 3)
    (V.any Bool (fun (x : Bool) => True) fun (b : Bool) => V.br b
    (V.any XPu (fun (x : XPu) => 0 < 3 ∧ x.k ≤ M ∧ x.qc ≤ Int.ofNat 9223372036854775807 ∧ puRun y n w l v (M - x.k) (0, x) = puR y n w l v M m) fun (x : XPu) => V.br (decide ((↑x.k : Int) < (↑M : Int)))
    (nN [(19, .lt2 0 1 0 1), (1, .pf (y.W = y.W) rfl), (1, .pf (y.L = y.L) rfl), (1, .pf (y.C = y.C) rfl), (1, .pf (y.T = y.T) rfl), (1, .pf (y.D = y.D) rfl), (1, .pf (y.H = y.H) rfl), (1, .pf (y.sl = y.sl) rfl), (1, .pf (y.ep = y.ep) rfl), (1, .pf (y.bm = y.bm) rfl), (1, .pf (y.qu = y.qu) rfl), (1, .pf (y.tb = y.tb) rfl), (1, .pf (w = w) rfl), (1, .pf (l = l) rfl)]
    (V.need (Ly.mk y.W y.L y.C y.T y.D y.H y.sl y.ep y.bm y.qu y.tb).small
    (nN [(1, .pf (∃ (x : Qu), x = quM (Ly.mk y.W y.L y.C y.T y.D y.H y.sl y.ep y.bm y.qu y.tb) w l) ⟨_, rfl⟩)]
    (V.any Qu (fun (q : Qu) => q = quM (Ly.mk y.W y.L y.C y.T y.D y.H y.sl y.ep y.bm y.qu y.tb) w l) fun (x_1 : Qu) => nN [(12, .lt2 0 1 0 1), (1, .pf (x_1.b = x_1.b) rfl), (1, .pf (n = n) rfl), (1, .pf (cap = cap) rfl), (1, .pf (x.m.lk = x.m.lk) rfl), (1, .pf (x.m.lc = x.m.lc) rfl), (1, .pf (x.m.lo = x.m.lo) rfl), (1, .pf (x.m.ln = x.m.ln) rfl), (1, .pf (x.m.ct = x.m.ct) rfl), (1, .pf (cap = cap) rfl), (1, .pf (n ≤ n) (Nat.le_refl _)), (1, .pf (∀ (e : Nat), e < n → x.m.g e = x.m.g e) (by intros; rfl)), (1, .pf (∃ (x_2 : Mm), x_2 = (Mm.mk (fun (e : Nat) => x.m.g e) x.m.lk x.m.lc x.m.lo x.m.ln x.m.ct).acc n (Int.ofNat 1) x_1.b ((Mm.mk (fun (e : Nat) => x.m.g e) x.m.lk x.m.lc x.m.lo x.m.ln x.m.ct).val n x_1.b)) ⟨_, rfl⟩)]
    (V.any Mm (fun (m' : Mm) => m' = (Mm.mk (fun (e : Nat) => x.m.g e) x.m.lk x.m.lc x.m.lo x.m.ln x.m.ct).acc n (Int.ofNat 1) x_1.b ((Mm.mk (fun (e : Nat) => x.m.g e) x.m.lk x.m.lc x.m.lo x.m.ln x.m.ct).val n x_1.b)) fun (x_2 : Mm) => nN [(1, .pf (∃ (x_3 : Int), x_3 = (Mm.mk (fun (e : Nat) => x.m.g e) x.m.lk x.m.lc x.m.lo x.m.ln x.m.ct).val n x_1.b) ⟨_, rfl⟩)]
    (V.any Int (fun (v : Int) => v = (Mm.mk (fun (e : Nat) => x.m.g e) x.m.lk x.m.lc x.m.lo x.m.ln x.m.ct).val n x_1.b) fun (x_3 : Int) => nN [(2, .lt2 0 1 0 1)]
    (V.need (1 < 3 ∧ (IntKind.i64.wrap ((↑x.k : Int) + Int.ofNat 1)).toNat ≤ M ∧ x_1.c ≤ Int.ofNat 9223372036854775807 ∧ puRun y n w l v (M - (IntKind.i64.wrap ((↑x.k : Int) + Int.ofNat 1)).toNat) (1, XPu.mk x_1.t x_1.b x_1.r x_1.c (Int.ofNat 2) x_3 (IntKind.i64.wrap ((↑x.k : Int) + Int.ofNat 1)).toNat (Mm.mk (fun (e : Nat) => x_2.g e) x_2.lk x_2.lc x_2.lo x_2.ln x_2.ct)) = puR y n w l v M m)
    (V.need (M - (IntKind.i64.wrap ((↑x.k : Int) + Int.ofNat 1)).toNat < M - x.k)
    (V.need (IntKind.i64.wrap ((↑x.k : Int) + Int.ofNat 1) = (↑(IntKind.i64.wrap ((↑x.k : Int) + Int.ofNat 1)).toNat : Int))
    (nN [(1, .pf (w = w) rfl), (1, .pf (l = l) rfl), (1, .pf (v = v) rfl), (1, .pf (n = n) rfl), (1, .pf (cap = cap) rfl), (1, .pf (x_2.lk = x_2.lk) rfl), (1, .pf (x_2.lc = x_2.lc) rfl), (1, .pf (x_2.lo = x_2.lo) rfl), (1, .pf (x_2.ln = x_2.ln) rfl), (1, .pf (x_2.ct = x_2.ct) rfl), (1, .pf (cap = cap) rfl), (1, .pf (n ≤ n) (Nat.le_refl _)), (1, .pf (∀ (e : Nat), e < n → x_2.g e = x_2.g e) (by intros; rfl)), (1, .pf (x_1.t = x_1.t) rfl), (1, .pf (x_1.b = x_1.b) rfl), (1, .pf (x_1.r = x_1.r) rfl), (1, .pf (x_1.c = x_1.c) rfl), (1, .pf (v = v) rfl), (1, .eqI 2 2), (1, .pf (x_3 = x_3) rfl)] V.ok))))))))))
    (V.need (Rs.mk (Int.negSucc 0) (Int.ofNat 0) (↑x.k : Int) (Mm.mk (fun (e : Nat) => x.m.g e) x.m.lk x.m.lc x.m.lo x.m.ln x.m.ct) = puR y n w l v M m)
    (nN [(1, .pf (Int.negSucc 0 = Int.negSucc 0) rfl), (1, .eqI 0 0), (1, .pf ((↑x.k : Int) = (↑x.k : Int)) rfl), (1, .pf (n = n) rfl), (1, .pf (cap = cap) rfl), (1, .pf (x.m.lk = x.m.lk) rfl), (1, .pf (x.m.lc = x.m.lc) rfl), (1, .pf (x.m.lo = x.m.lo) rfl), (1, .pf (x.m.ln = x.m.ln) rfl), (1, .pf (x.m.ct = x.m.ct) rfl), (1, .pf (cap = cap) rfl), (1, .pf (n ≤ n) (Nat.le_refl _)), (1, .pf (∀ (e : Nat), e < n → x.m.g e = x.m.g e) (by intros; rfl))] V.ok)))
    (V.any Bool (fun (x : Bool) => True) fun (b : Bool) => V.br b
    (V.any XPu (fun (x : XPu) => 1 < 3 ∧ x.k ≤ M ∧ x.qc ≤ Int.ofNat 9223372036854775807 ∧ puRun y n w l v (M - x.k) (1, x) = puR y n w l v M m) fun (x : XPu) => V.br (decide ((↑x.k : Int) < (↑M : Int)))
    (V.br (x.ln == Int.ofNat 1)
    (nN [(7, .lt2 0 1 0 1), (1, .pf (x.qb = x.qb) rfl), (1, .pf (n = n) rfl), (1, .pf (cap = cap) rfl), (1, .pf (x.m.lk = x.m.lk) rfl), (1, .pf (x.m.lc = x.m.lc) rfl), (1, .pf (x.m.lo = x.m.lo) rfl), (1, .pf (x.m.ln = x.m.ln) rfl), (1, .pf (x.m.ct = x.m.ct) rfl), (1, .pf (cap = cap) rfl), (1, .pf (n ≤ n) (Nat.le_refl _)), (1, .pf (∀ (e : Nat), e < n → x.m.g e = x.m.g e) (by intros; rfl)), (1, .pf (∃ (x_1 : Mm), x_1 = (Mm.mk (fun (e : Nat) => x.m.g e) x.m.lk x.m.lc x.m.lo x.m.ln x.m.ct).acc n (Int.ofNat 1) x.qb ((Mm.mk (fun (e : Nat) => x.m.g e) x.m.lk x.m.lc x.m.lo x.m.ln x.m.ct).val n x.qb)) ⟨_, rfl⟩)]
    (V.any Mm (fun (m' : Mm) => m' = (Mm.mk (fun (e : Nat) => x.m.g e) x.m.lk x.m.lc x.m.lo x.m.ln x.m.ct).acc n (Int.ofNat 1) x.qb ((Mm.mk (fun (e : Nat) => x.m.g e) x.m.lk x.m.lc x.m.lo x.m.ln x.m.ct).val n x.qb)) fun (x_1 : Mm) => nN [(1, .pf (∃ (x_2 : Int), x_2 = (Mm.mk (fun (e : Nat) => x.m.g e) x.m.lk x.m.lc x.m.lo x.m.ln x.m.ct).val n x.qb) ⟨_, rfl⟩)]
    (V.any Int (fun (v : Int) => v = (Mm.mk (fun (e : Nat) => x.m.g e) x.m.lk x.m.lc x.m.lo x.m.ln x.m.ct).val n x.qb) fun (x_2 : Int) => nN [(2, .lt2 0 1 0 1)]
    (V.need (1 < 3 ∧ (IntKind.i64.wrap ((↑x.k : Int) + Int.ofNat 1)).toNat ≤ M ∧ x.qc ≤ Int.ofNat 9223372036854775807 ∧ puRun y n w l v (M - (IntKind.i64.wrap ((↑x.k : Int) + Int.ofNat 1)).toNat) (1, XPu.mk x.qt x.qb x.qr x.qc (IntKind.i64.wrap (x.ln + Int.ofNat 1)) x_2 (IntKind.i64.wrap ((↑x.k : Int) + Int.ofNat 1)).toNat (Mm.mk (fun (e : Nat) => x_1.g e) x_1.lk x_1.lc x_1.lo x_1.ln x_1.ct)) = puR y n w l v M m)
    (V.need (M - (IntKind.i64.wrap ((↑x.k : Int) + Int.ofNat 1)).toNat < M - x.k)
    (V.need (IntKind.i64.wrap ((↑x.k : Int) + Int.ofNat 1) = (↑(IntKind.i64.wrap ((↑x.k : Int) + Int.ofNat 1)).toNat : Int))
    (nN [(1, .pf (w = w) rfl), (1, .pf (l = l) rfl), (1, .pf (v = v) rfl), (1, .pf (n = n) rfl), (1, .pf (cap = cap) rfl), (1, .pf (x_1.lk = x_1.lk) rfl), (1, .pf (x_1.lc = x_1.lc) rfl), (1, .pf (x_1.lo = x_1.lo) rfl), (1, .pf (x_1.ln = x_1.ln) rfl), (1, .pf (x_1.ct = x_1.ct) rfl), (1, .pf (cap = cap) rfl), (1, .pf (n ≤ n) (Nat.le_refl _)), (1, .pf (∀ (e : Nat), e < n → x_1.g e = x_1.g e) (by intros; rfl)), (1, .pf (x.qt = x.qt) rfl), (1, .pf (x.qb = x.qb) rfl), (1, .pf (x.qr = x.qr) rfl), (1, .pf (x.qc = x.qc) rfl), (1, .pf (v = v) rfl), (1, .pf (IntKind.i64.wrap (x.ln + Int.ofNat 1) = IntKind.i64.wrap (x.ln + Int.ofNat 1)) rfl), (1, .pf (x_2 = x_2) rfl)] V.ok)))))))
    (V.br (x.ln == Int.ofNat 2)
    (nN [(7, .lt2 0 1 0 1), (1, .pf (x.qt = x.qt) rfl), (1, .pf (n = n) rfl), (1, .pf (cap = cap) rfl), (1, .pf (x.m.lk = x.m.lk) rfl), (1, .pf (x.m.lc = x.m.lc) rfl), (1, .pf (x.m.lo = x.m.lo) rfl), (1, .pf (x.m.ln = x.m.ln) rfl), (1, .pf (x.m.ct = x.m.ct) rfl), (1, .pf (cap = cap) rfl), (1, .pf (n ≤ n) (Nat.le_refl _)), (1, .pf (∀ (e : Nat), e < n → x.m.g e = x.m.g e) (by intros; rfl)), (1, .pf (∃ (x_1 : Mm), x_1 = (Mm.mk (fun (e : Nat) => x.m.g e) x.m.lk x.m.lc x.m.lo x.m.ln x.m.ct).acc n (Int.ofNat 1) x.qt ((Mm.mk (fun (e : Nat) => x.m.g e) x.m.lk x.m.lc x.m.lo x.m.ln x.m.ct).val n x.qt)) ⟨_, rfl⟩)]
    (V.any Mm (fun (m' : Mm) => m' = (Mm.mk (fun (e : Nat) => x.m.g e) x.m.lk x.m.lc x.m.lo x.m.ln x.m.ct).acc n (Int.ofNat 1) x.qt ((Mm.mk (fun (e : Nat) => x.m.g e) x.m.lk x.m.lc x.m.lo x.m.ln x.m.ct).val n x.qt)) fun (x_1 : Mm) => nN [(1, .pf (∃ (x_2 : Int), x_2 = (Mm.mk (fun (e : Nat) => x.m.g e) x.m.lk x.m.lc x.m.lo x.m.ln x.m.ct).val n x.qt) ⟨_, rfl⟩)]
    (V.any Int (fun (v : Int) => v = (Mm.mk (fun (e : Nat) => x.m.g e) x.m.lk x.m.lc x.m.lo x.m.ln x.m.ct).val n x.qt) fun (x_2 : Int) => nN [(7, .lt2 0 1 0 1)]
    (V.br (decide (IntKind.i64.wrap (IntKind.u64.wrap (x.b - x_2)) ≥ x.qc))
    (nN [(12, .lt2 0 1 0 1)]
    (V.need (Rs.mk (Int.ofNat 3) (Int.ofNat 0) (IntKind.i64.wrap ((↑x.k : Int) + Int.ofNat 1)) (Mm.mk (fun (e : Nat) => x_1.g e) x_1.lk x_1.lc x_1.lo x_1.ln x_1.ct) = puR y n w l v M m)
    (nN [(1, .eqI 3 3), (1, .eqI 0 0), (1, .pf (IntKind.i64.wrap ((↑x.k : Int) + Int.ofNat 1) = IntKind.i64.wrap ((↑x.k : Int) + Int.ofNat 1)) rfl), (1, .pf (n = n) rfl), (1, .pf (cap = cap) rfl), (1, .pf (x_1.lk = x_1.lk) rfl), (1, .pf (x_1.lc = x_1.lc) rfl), (1, .pf (x_1.lo = x_1.lo) rfl), (1, .pf (x_1.ln = x_1.ln) rfl), (1, .pf (x_1.ct = x_1.ct) rfl), (1, .pf (cap = cap) rfl), (1, .pf (n ≤ n) (Nat.le_refl _)), (1, .pf (∀ (e : Nat), e < n → x_1.g e = x_1.g e) (by intros; rfl))] V.ok)))
    (V.need (1 < 3 ∧ (IntKind.i64.wrap ((↑x.k : Int) + Int.ofNat 1)).toNat ≤ M ∧ x.qc ≤ Int.ofNat 9223372036854775807 ∧ puRun y n w l v (M - (IntKind.i64.wrap ((↑x.k : Int) + Int.ofNat 1)).toNat) (1, XPu.mk x.qt x.qb x.qr x.qc (IntKind.i64.wrap (x.ln + Int.ofNat 1)) x.b (IntKind.i64.wrap ((↑x.k : Int) + Int.ofNat 1)).toNat (Mm.mk (fun (e : Nat) => x_1.g e) x_1.lk x_1.lc x_1.lo x_1.ln x_1.ct)) = puR y n w l v M m)
    (V.need (M - (IntKind.i64.wrap ((↑x.k : Int) + Int.ofNat 1)).toNat < M - x.k)
    (V.need (IntKind.i64.wrap ((↑x.k : Int) + Int.ofNat 1) = (↑(IntKind.i64.wrap ((↑x.k : Int) + Int.ofNat 1)).toNat : Int))
    (nN [(1, .pf (w = w) rfl), (1, .pf (l = l) rfl), (1, .pf (v = v) rfl), (1, .pf (n = n) rfl), (1, .pf (cap = cap) rfl), (1, .pf (x_1.lk = x_1.lk) rfl), (1, .pf (x_1.lc = x_1.lc) rfl), (1, .pf (x_1.lo = x_1.lo) rfl), (1, .pf (x_1.ln = x_1.ln) rfl), (1, .pf (x_1.ct = x_1.ct) rfl), (1, .pf (cap = cap) rfl), (1, .pf (n ≤ n) (Nat.le_refl _)), (1, .pf (∀ (e : Nat), e < n → x_1.g e = x_1.g e) (by intros; rfl)), (1, .pf (x.qt = x.qt) rfl), (1, .pf (x.qb = x.qb) rfl), (1, .pf (x.qr = x.qr) rfl), (1, .pf (x.qc = x.qc) rfl), (1, .pf (v = v) rfl), (1, .pf (IntKind.i64.wrap (x.ln + Int.ofNat 1) = IntKind.i64.wrap (x.ln + Int.ofNat 1)) rfl), (1, .pf (x.b = x.b) rfl)] V.ok))))))))
    (V.br (x.ln == Int.ofNat 3)
    (nN [(12, .lt2 0 1 0 1), (1, .pf (x.qt = x.qt) rfl), (1, .pf (x.qb = x.qb) rfl), (1, .pf (x.qr = x.qr) rfl), (1, .pf (x.qc = x.qc) rfl), (1, .pf (x.b = x.b) rfl)]
    (V.need (x.qc ≤ Int.ofNat 9223372036854775807)
    (nN [(1, .pf (∃ (x_1 : Int), x_1 = ringC x.qr x.qc x.b) ⟨_, rfl⟩)]
    (V.any Int (fun (r : Int) => r = ringC x.qr x.qc x.b) fun (x_1 : Int) => nN [(3, .lt2 0 1 0 1), (1, .pf (x_1 = x_1) rfl), (1, .pf (IntKind.u64.wrap v = IntKind.u64.wrap v) rfl), (1, .pf (n = n) rfl), (1, .pf (cap = cap) rfl), (1, .pf (x.m.lk = x.m.lk) rfl), (1, .pf (x.m.lc = x.m.lc) rfl), (1, .pf (x.m.lo = x.m.lo) rfl), (1, .pf (x.m.ln = x.m.ln) rfl), (1, .pf (x.m.ct = x.m.ct) rfl), (1, .pf (cap = cap) rfl), (1, .pf (n ≤ n) (Nat.le_refl _)), (1, .pf (∀ (e : Nat), e < n → x.m.g e = x.m.g e) (by intros; rfl)), (1, .pf (∃ (x_2 : Mm), x_2 = (Mm.mk (fun (e : Nat) => x.m.g e) x.m.lk x.m.lc x.m.lo x.m.ln x.m.ct).acc n (Int.ofNat 2) x_1 (IntKind.u64.wrap v)) ⟨_, rfl⟩)]
    (V.any Mm (fun (m' : Mm) => m' = (Mm.mk (fun (e : Nat) => x.m.g e) x.m.lk x.m.lc x.m.lo x.m.ln x.m.ct).acc n (Int.ofNat 2) x_1 (IntKind.u64.wrap v)) fun (x_2 : Mm) => V.need (1 < 3 ∧ (IntKind.i64.wrap ((↑x.k : Int) + Int.ofNat 1)).toNat ≤ M ∧ x.qc ≤ Int.ofNat 9223372036854775807 ∧ puRun y n w l v (M - (IntKind.i64.wrap ((↑x.k : Int) + Int.ofNat 1)).toNat) (1, XPu.mk x.qt x.qb x.qr x.qc (IntKind.i64.wrap (x.ln + Int.ofNat 1)) x.b (IntKind.i64.wrap ((↑x.k : Int) + Int.ofNat 1)).toNat (Mm.mk (fun (e : Nat) => x_2.g e) x_2.lk x_2.lc x_2.lo x_2.ln x_2.ct)) = puR y n w l v M m)
    (V.need (M - (IntKind.i64.wrap ((↑x.k : Int) + Int.ofNat 1)).toNat < M - x.k)
    (V.need (IntKind.i64.wrap ((↑x.k : Int) + Int.ofNat 1) = (↑(IntKind.i64.wrap ((↑x.k : Int) + Int.ofNat 1)).toNat : Int))
    (nN [(1, .pf (w = w) rfl), (1, .pf (l = l) rfl), (1, .pf (v = v) rfl), (1, .pf (n = n) rfl), (1, .pf (cap = cap) rfl), (1, .pf (x_2.lk = x_2.lk) rfl), (1, .pf (x_2.lc = x_2.lc) rfl), (1, .pf (x_2.lo = x_2.lo) rfl), (1, .pf (x_2.ln = x_2.ln) rfl), (1, .pf (x_2.ct = x_2.ct) rfl), (1, .pf (cap = cap) rfl), (1, .pf (n ≤ n) (Nat.le_refl _)), (1, .pf (∀ (e : Nat), e < n → x_2.g e = x_2.g e) (by intros; rfl)), (1, .pf (x.qt = x.qt) rfl), (1, .pf (x.qb = x.qb) rfl), (1, .pf (x.qr = x.qr) rfl), (1, .pf (x.qc = x.qc) rfl), (1, .pf (v = v) rfl), (1, .pf (IntKind.i64.wrap (x.ln + Int.ofNat 1) = IntKind.i64.wrap (x.ln + Int.ofNat 1)) rfl), (1, .pf (x.b = x.b) rfl)] V.ok))))))))
    (nN [(10, .lt2 0 1 0 1), (1, .pf (x.qb = x.qb) rfl), (1, .pf (IntKind.u64.wrap (x.b + Int.ofNat 1) = IntKind.u64.wrap (x.b + Int.ofNat 1)) rfl), (1, .pf (n = n) rfl), (1, .pf (cap = cap) rfl), (1, .pf (x.m.lk = x.m.lk) rfl), (1, .pf (x.m.lc = x.m.lc) rfl), (1, .pf (x.m.lo = x.m.lo) rfl), (1, .pf (x.m.ln = x.m.ln) rfl), (1, .pf (x.m.ct = x.m.ct) rfl), (1, .pf (cap = cap) rfl), (1, .pf (n ≤ n) (Nat.le_refl _)), (1, .pf (∀ (e : Nat), e < n → x.m.g e = x.m.g e) (by intros; rfl)), (1, .pf (∃ (x_1 : Mm), x_1 = (Mm.mk (fun (e : Nat) => x.m.g e) x.m.lk x.m.lc x.m.lo x.m.ln x.m.ct).acc n (Int.ofNat 2) x.qb (IntKind.u64.wrap (x.b + Int.ofNat 1))) ⟨_, rfl⟩)]
    (V.any Mm (fun (m' : Mm) => m' = (Mm.mk (fun (e : Nat) => x.m.g e) x.m.lk x.m.lc x.m.lo x.m.ln x.m.ct).acc n (Int.ofNat 2) x.qb (IntKind.u64.wrap (x.b + Int.ofNat 1))) fun (x_1 : Mm) => nN [(22, .lt2 0 1 0 1), (1, .pf (w = w) rfl), (1, .pf (y.W = y.W) rfl), (1, .pf (y.bm = y.bm) rfl), (1, .eqI 1 1)]
    (V.need (okAtT w y.W y.bm (Int.ofNat 1))
    (nN [(1, .pf (∃ (x : Int), x = atM w y.W y.bm (Int.ofNat 1)) ⟨_, rfl⟩)]
    (V.any Int (fun (r : Int) => r = atM w y.W y.bm (Int.ofNat 1)) fun (x_2 : Int) => nN [(7, .lt2 0 1 0 1)]
    (V.need (2 < 3 ∧ (IntKind.i64.wrap ((↑x.k : Int) + Int.ofNat 1)).toNat ≤ M ∧ Int.ofNat 0 ≤ Int.ofNat 9223372036854775807 ∧ puRun y n w l v (M - (IntKind.i64.wrap ((↑x.k : Int) + Int.ofNat 1)).toNat) (2, XPu.mk (Int.ofNat 0) (Int.ofNat 0) (Int.ofNat 0) (Int.ofNat 0) (Int.ofNat 0) (Int.ofNat 0) (IntKind.i64.wrap ((↑x.k : Int) + Int.ofNat 1)).toNat (Mm.mk (fun (e : Nat) => x_1.g e) x_1.lk x_1.lc x_1.lo x_1.ln x_1.ct)) = puR y n w l v M m)
    (V.need (M - (IntKind.i64.wrap ((↑x.k : Int) + Int.ofNat 1)).toNat < M - x.k)
    (V.need (IntKind.i64.wrap ((↑x.k : Int) + Int.ofNat 1) = (↑(IntKind.i64.wrap ((↑x.k : Int) + Int.ofNat 1)).toNat : Int))
    (nN [(1, .pf (w = w) rfl), (1, .pf (l = l) rfl), (1, .pf (v = v) rfl), (1, .pf (n = n) rfl), (1, .pf (cap = cap) rfl), (1, .pf (x_1.lk = x_1.lk) rfl), (1, .pf (x_1.lc = x_1.lc) rfl), (1, .pf (x_1.lo = x_1.lo) rfl), (1, .pf (x_1.ln = x_1.ln) rfl), (1, .pf (x_1.ct = x_1.ct) rfl), (1, .pf (cap = cap) rfl), (1, .pf (n ≤ n) (Nat.le_refl _)), (1, .pf (∀ (e : Nat), e < n → x_1.g e = x_1.g e) (by intros; rfl))]
    (V.need (x_2 = atM w y.W y.bm (Int.ofNat 1))
    (nN [(1, .pf (l = l) rfl)] V.ok))))))))))))))
    (V.need (Rs.mk (Int.negSucc 0) (Int.ofNat 0) (↑x.k : Int) (Mm.mk (fun (e : Nat) => x.m.g e) x.m.lk x.m.lc x.m.lo x.m.ln x.m.ct) = puR y n w l v M m)
    (nN [(1, .pf (Int.negSucc 0 = Int.negSucc 0) rfl), (1, .eqI 0 0), (1, .pf ((↑x.k : Int) = (↑x.k : Int)) rfl), (1, .pf (n = n) rfl), (1, .pf (cap = cap) rfl), (1, .pf (x.m.lk = x.m.lk) rfl), (1, .pf (x.m.lc = x.m.lc) rfl), (1, .pf (x.m.lo = x.m.lo) rfl), (1, .pf (x.m.ln = x.m.ln) rfl), (1, .pf (x.m.ct = x.m.ct) rfl), (1, .pf (cap = cap) rfl), (1, .pf (n ≤ n) (Nat.le_refl _)), (1, .pf (∀ (e : Nat), e < n → x.m.g e = x.m.g e) (by intros; rfl))] V.ok)))
    (V.any Bool (fun (x : Bool) => True) fun (b : Bool) => V.br b
    (V.any XPu (fun (x : XPu) => 2 < 3 ∧ x.k ≤ M ∧ x.qc ≤ Int.ofNat 9223372036854775807 ∧ puRun y n w l v (M - x.k) (2, x) = puR y n w l v M m) fun (x : XPu) => V.br (decide ((↑x.k : Int) < (↑M : Int)))
    (nN [(9, .lt2 0 1 0 1), (1, .pf (l = l) rfl)]
    (V.need True
    (nN [(1, .pf (∃ (x : Int), x = bitM l) ⟨_, rfl⟩)]
    (V.any Int (fun (r : Int) => r = bitM l) fun (x_1 : Int) => nN [(1, .pf (atM w y.W y.bm (Int.ofNat 1) = atM w y.W y.bm (Int.ofNat 1)) rfl), (1, .pf (x_1 = x_1) rfl), (1, .pf (n = n) rfl), (1, .pf (cap = cap) rfl), (1, .pf (x.m.lk = x.m.lk) rfl), (1, .pf (x.m.lc = x.m.lc) rfl), (1, .pf (x.m.lo = x.m.lo) rfl), (1, .pf (x.m.ln = x.m.ln) rfl), (1, .pf (x.m.ct = x.m.ct) rfl), (1, .pf (cap = cap) rfl), (1, .pf (n ≤ n) (Nat.le_refl _)), (1, .pf (∀ (e : Nat), e < n → x.m.g e = x.m.g e) (by intros; rfl)), (1, .pf (∃ (x_2 : Mm), x_2 = (Mm.mk (fun (e : Nat) => x.m.g e) x.m.lk x.m.lc x.m.lo x.m.ln x.m.ct).acc n (Int.ofNat 4) (atM w y.W y.bm (Int.ofNat 1)) (bits BinOp.or IntKind.u64 ((Mm.mk (fun (e : Nat) => x.m.g e) x.m.lk x.m.lc x.m.lo x.m.ln x.m.ct).val n (atM w y.W y.bm (Int.ofNat 1))) x_1)) ⟨_, rfl⟩)]
    (V.any Mm (fun (m' : Mm) => m' = (Mm.mk (fun (e : Nat) => x.m.g e) x.m.lk x.m.lc x.m.lo x.m.ln x.m.ct).acc n (Int.ofNat 4) (atM w y.W y.bm (Int.ofNat 1)) (bits BinOp.or IntKind.u64 ((Mm.mk (fun (e : Nat) => x.m.g e) x.m.lk x.m.lc x.m.lo x.m.ln x.m.ct).val n (atM w y.W y.bm (Int.ofNat 1))) x_1)) fun (x_2 : Mm) => nN [(1, .pf (∃ (x_3 : Int), x_3 = (Mm.mk (fun (e : Nat) => x.m.g e) x.m.lk x.m.lc x.m.lo x.m.ln x.m.ct).val n (atM w y.W y.bm (Int.ofNat 1))) ⟨_, rfl⟩)]
    (V.any Int (fun (v : Int) => v = (Mm.mk (fun (e : Nat) => x.m.g e) x.m.lk x.m.lc x.m.lo x.m.ln x.m.ct).val n (atM w y.W y.bm (Int.ofNat 1))) fun (x_3 : Int) => nN [(12, .lt2 0 1 0 1)]
    (V.need (Rs.mk (Int.ofNat 0) (Int.ofNat 0) (IntKind.i64.wrap ((↑x.k : Int) + Int.ofNat 1)) (Mm.mk (fun (e : Nat) => x_2.g e) x_2.lk x_2.lc x_2.lo x_2.ln x_2.ct) = puR y n w l v M m)
    (nN [(2, .eqI 0 0), (1, .pf (IntKind.i64.wrap ((↑x.k : Int) + Int.ofNat 1) = IntKind.i64.wrap ((↑x.k : Int) + Int.ofNat 1)) rfl), (1, .pf (n = n) rfl), (1, .pf (cap = cap) rfl), (1, .pf (x_2.lk = x_2.lk) rfl), (1, .pf (x_2.lc = x_2.lc) rfl), (1, .pf (x_2.lo = x_2.lo) rfl), (1, .pf (x_2.ln = x_2.ln) rfl), (1, .pf (x_2.ct = x_2.ct) rfl), (1, .pf (cap = cap) rfl), (1, .pf (n ≤ n) (Nat.le_refl _)), (1, .pf (∀ (e : Nat), e < n → x_2.g e = x_2.g e) (by intros; rfl))] V.ok))))))))
    (V.need (Rs.mk (Int.negSucc 0) (Int.ofNat 0) (↑x.k : Int) (Mm.mk (fun (e : Nat) => x.m.g e) x.m.lk x.m.lc x.m.lo x.m.ln x.m.ct) = puR y n w l v M m)
    (nN [(1, .pf (Int.negSucc 0 = Int.negSucc 0) rfl), (1, .eqI 0 0), (1, .pf ((↑x.k : Int) = (↑x.k : Int)) rfl), (1, .pf (n = n) rfl), (1, .pf (cap = cap) rfl), (1, .pf (x.m.lk = x.m.lk) rfl), (1, .pf (x.m.lc = x.m.lc) rfl), (1, .pf (x.m.lo = x.m.lo) rfl), (1, .pf (x.m.ln = x.m.ln) rfl), (1, .pf (x.m.ct = x.m.ct) rfl), (1, .pf (cap = cap) rfl), (1, .pf (n ≤ n) (Nat.le_refl _)), (1, .pf (∀ (e : Nat), e < n → x.m.g e = x.m.g e) (by intros; rfl))] V.ok))) V.ok))))))) := by kernel_rfl


end Go.Proofs.Ytomaagmleafjeaa.Md

/- Push of levels, alone: the conditions hold. -/
set_option maxRecDepth 100000
namespace Go.Proofs.Ytomaagmleafjeaa.Md
open Go Go.RowKit Sx Cn Dc Ck Vc
theorem puRun_lt {y : Ly} {n : Nat} {w l v : Int} {k M : Nat} (h : k < M) (s : Nat × XPu) : puRun y n w l v (M - k) s = match puStep y n w l v s with
    | (x', none) => puRun y n w l v (M - (k + 1)) x'
    | (x', some r) => ⟨r.1, r.2, (x'.2.k : Int), x'.2.m⟩ := by
  rw [show M - k = (M - (k + 1)) + 1 by omega]
  rcases h : puStep y n w l v s with ⟨x', _ | r⟩ <;> simp only [puRun, aRun, h]
theorem puRun_eq {y : Ly} {n : Nat} {w l v : Int} {k M : Nat} (h : ¬ k < M) (s : Nat × XPu) : puRun y n w l v (M - k) s = ⟨-1, 0, (s.2.k : Int), s.2.m⟩ := by
  rw [show M - k = 0 by omega]
  rfl
set_option maxHeartbeats 4000000 in
theorem vhPu {y : Ly} {n cap : Nat} {w l v : Int} {M : Nat} {m : Mm} (hy : y.small) (hB : okAtT w y.W y.bm 1) (hM : M ≤ 1000) : VHolds (verPu y n cap w l v M m) := by
  constructor
  rw [verPu_eq]
  refine V.needI ⟨by omega, by omega, by simp, rfl⟩ ?_
  generalize puR y n w l v M m = R
  refine V.needI rfl (nN_h rfl (V.needI (fun i h => by omega) (V.needI (fun x h => h.1) (V.anyI fun b _ => V.brI (fun _ => V.anyI fun x hx => ?s0) (fun _ => V.anyI fun b _ => V.brI (fun _ => V.anyI fun x hx => ?s1) (fun _ => V.anyI fun b _ => V.brI (fun _ => V.anyI fun x hx => ?s2) (fun _ => V.okI)))))))
  all_goals
    obtain ⟨-, hk, hc, hR⟩ := hx
    refine V.brI (fun hlt => ?_) (fun hge => ?_)
    case' refine_1 =>
      have hlt : x.k < M := by simpa using hlt
      rw [puRun_lt hlt] at hR
      have ek : IntKind.i64.wrap ((x.k : Int) + Int.ofNat 1) = ((x.k + 1 : Nat) : Int) := wnat (by omega)
      simp only [ek, Int.toNat_natCast, Mm.eta, Ly.eta]
    case' refine_2 =>
      have hge : ¬ x.k < M := by simpa using hge
      rw [puRun_eq hge] at hR
      simp only [Mm.eta]
    (repeat' first | with_reducible exact V.okI | with_reducible refine V.brT ?_ | with_reducible refine V.brF ?_ | with_reducible refine V.brI ?_ ?_ | with_reducible refine V.anyI ?_ | with_reducible refine nN_h rfl ?_ | with_reducible refine V.needI ?_ ?_ | with_reducible intro _)
    all_goals subst_vars
    all_goals simp only [Int.ofNat_eq_natCast, Int.cast_ofNat_Int, Int.natCast_zero, Int.natCast_one, decide_eq_true_eq, decide_eq_false_iff_not, beq_iff_eq, beq_eq_false_iff_ne, Mm.eta, Ly.eta, Bool.not_eq_true', Bool.not_eq_false', gt_iff_lt] at *
    all_goals first
      | rfl
      | omega
      | exact hB
      | exact hy
      | exact hc
      | (simp only [puStep, hiB, *, if_true]; done)
      | (simp [puStep, sz, hiB, us, k2, k3, k4, k5, k6, k7, k8, *]; done)
      | (refine ⟨by omega, by omega, ?_, ?_⟩
         all_goals first
           | exact hc
           | exact quM_c hy _ _
           | omega
           | (simp only [puStep, sz, hiB, *, if_true, if_false]; done)
           | (simp [puStep, sz, hiB, us, k2, k3, k4, k5, k6, k7, k8, *]; done)
           | skip)
      | skip
    all_goals trace_state
end Go.Proofs.Ytomaagmleafjeaa.Md
