/- Walk alone: the conditions, printed by program. -/
import Derived.Test.YtomaagmleafjeaaMMdBcD
import Derived.Test.YtomaagmleafjeaaMW
import Derived.Test.YtomaagmleafjeaaMMdBcI
import Derived.Test.YtomaagmleafjeaaMMdBr
import Derived.Test.YtomaagmleafjeaaMMdPop
set_option linter.unusedVariables false
set_option linter.unusedSimpArgs false
set_option linter.unusedVariables false
set_option maxRecDepth 100000
namespace Go.Proofs.Ytomaagmleafjeaa.Md
open Go Go.RowKit Sx Cn Dc Ck Vc

set_option maxHeartbeats 8000000 in
theorem verBc_eq (t lv : Int) (m : Mm) (l : El) (nc : Nat) (I : Nat × XBc → Prop) (φ : Re × Nat → Prop) : verBc t lv m l nc I φ =
  V.need (I (0, XBc.mk t (Int.ofNat 0) (Int.ofNat 0) (Int.ofNat 0) (Int.ofNat 0) (Int.ofNat 0) (Int.ofNat 0) (Int.ofNat 0) (Int.ofNat 0) 0 (Mm.mk (fun (e : Nat) => m.g e) m.lk m.lc m.lo m.ln m.ct) (El.mk l.n (Evs.mk (fun (i : Nat) => l.v.k i) (fun (i : Nat) => l.v.w i) (fun (i : Nat) => l.v.t i) (fun (i : Nat) => l.v.o i) fun (i : Nat) => l.v.l i)) nc))
    (V.need (Int.ofNat 0 = (↑0 : Int))
    (nN [(1, .pf (t = t) rfl), (1, .pf (lv = lv) rfl), (1, .pf (m.lk = m.lk) rfl), (1, .pf (m.lc = m.lc) rfl), (1, .pf (m.lo = m.lo) rfl), (1, .pf (m.ln = m.ln) rfl), (1, .pf (m.ct = m.ct) rfl), (1, .eq 66 66), (1, .le 66 66), (1, .pf (∀ (e : Nat), e < 66 → m.g e = m.g e) (by intros; rfl)), (1, .pf (l.n = l.n) rfl), (2, .pf (nc = nc) rfl), (1, .pf (l.n ≤ l.n) (Nat.le_refl _)), (1, .pf (∀ (e : Nat), e < l.n → l.v.k e = l.v.k e) (by intros; rfl)), (1, .pf (∀ (e : Nat), e < l.n → l.v.w e = l.v.w e) (by intros; rfl)), (1, .pf (∀ (e : Nat), e < l.n → l.v.t e = l.v.t e) (by intros; rfl)), (1, .pf (∀ (e : Nat), e < l.n → l.v.o e = l.v.o e) (by intros; rfl)), (1, .pf (∀ (e : Nat), e < l.n → l.v.l e = l.v.l e) (by intros; rfl))]
    (V.need (∀ (i : Nat), i < 0 → 0 ≤ 0 ∧ 0 ≤ 0)
    (V.need (∀ (i : Nat), i < 0 → 0 ≤ 0 ∧ 0 ≤ 0)
    (V.need (∀ (x : Nat × XBc), I x → x.fst < 7)
    (V.any Bool (fun (x : Bool) => True) fun (b : Bool) => V.br b
    (V.any XBc (fun (x : XBc) => I (0, x)) fun (x : XBc) => V.br (decide ((↑x.k : Int) < Int.ofNat 200))
    (nN [(6, .lt2 0 1 0 1)]
    (V.br (decide (x.t ≥ Int.ofNat 0))
    (V.br (decide (x.t < Int.ofNat 8))
    (V.br (decide (lv ≥ Int.ofNat 0))
    (V.br (!decide (lv < Int.ofNat 3))
    (nN [(6, .lt2 0 1 0 1)]
    (V.need (φ (Re.mk (Int.ofNat 4) (Int.ofNat 0) (IntKind.i64.wrap ((↑x.k : Int) + Int.ofNat 1)) (Mm.mk (fun (e : Nat) => x.m.g e) x.m.lk x.m.lc x.m.lo x.m.ln x.m.ct) (El.mk x.l.n (Evs.mk (fun (i : Nat) => x.l.v.k i) (fun (i : Nat) => x.l.v.w i) (fun (i : Nat) => x.l.v.t i) (fun (i : Nat) => x.l.v.o i) fun (i : Nat) => x.l.v.l i)), x.nc))
    (nN [(1, .eqI 4 4), (1, .eqI 0 0), (1, .pf (IntKind.i64.wrap ((↑x.k : Int) + Int.ofNat 1) = IntKind.i64.wrap ((↑x.k : Int) + Int.ofNat 1)) rfl), (1, .pf (x.l.n = x.l.n) rfl), (1, .pf (x.nc = x.nc) rfl), (1, .pf (x.m.lk = x.m.lk) rfl), (1, .pf (x.m.lc = x.m.lc) rfl), (1, .pf (x.m.lo = x.m.lo) rfl), (1, .pf (x.m.ln = x.m.ln) rfl), (1, .pf (x.m.ct = x.m.ct) rfl), (1, .eq 66 66), (1, .le 66 66), (1, .pf (∀ (e : Nat), e < 66 → x.m.g e = x.m.g e) (by intros; rfl)), (1, .pf (x.nc = x.nc) rfl), (1, .pf (x.l.n ≤ x.l.n) (Nat.le_refl _)), (1, .pf (∀ (e : Nat), e < x.l.n → x.l.v.k e = x.l.v.k e) (by intros; rfl)), (1, .pf (∀ (e : Nat), e < x.l.n → x.l.v.w e = x.l.v.w e) (by intros; rfl)), (1, .pf (∀ (e : Nat), e < x.l.n → x.l.v.t e = x.l.v.t e) (by intros; rfl)), (1, .pf (∀ (e : Nat), e < x.l.n → x.l.v.o e = x.l.v.o e) (by intros; rfl)), (1, .pf (∀ (e : Nat), e < x.l.n → x.l.v.l e = x.l.v.l e) (by intros; rfl))] V.ok)))
    (nN [(17, .lt2 0 1 0 1)]
    (V.br (decide (x.t ≥ Int.ofNat 0))
    (V.br (decide (x.t < Int.ofNat 8))
    (V.br (decide (lv ≥ Int.ofNat 0))
    (V.br (!decide (lv < Int.ofNat 3))
    (nN [(6, .lt2 0 1 0 1)]
    (V.need (I (6, XBc.mk x.t (Int.ofNat 0) (Int.ofNat 0) (Int.ofNat 0) (Int.ofNat 0) (Int.ofNat 0) (Int.ofNat 0) (Int.ofNat 0) (Int.ofNat 0) (IntKind.i64.wrap ((↑x.k : Int) + Int.ofNat 1)).toNat (Mm.mk (fun (e : Nat) => x.m.g e) x.m.lk x.m.lc x.m.lo x.m.ln x.m.ct) (El.mk x.l.n (Evs.mk (fun (i : Nat) => x.l.v.k i) (fun (i : Nat) => x.l.v.w i) (fun (i : Nat) => x.l.v.t i) (fun (i : Nat) => x.l.v.o i) fun (i : Nat) => x.l.v.l i)) x.nc))
    (V.need (200 - (IntKind.i64.wrap ((↑x.k : Int) + Int.ofNat 1)).toNat < 200 - x.k)
    (V.need (IntKind.i64.wrap ((↑x.k : Int) + Int.ofNat 1) = (↑(IntKind.i64.wrap ((↑x.k : Int) + Int.ofNat 1)).toNat : Int))
    (nN [(1, .pf (x.t = x.t) rfl), (1, .pf (lv = lv) rfl), (1, .pf (x.m.lk = x.m.lk) rfl), (1, .pf (x.m.lc = x.m.lc) rfl), (1, .pf (x.m.lo = x.m.lo) rfl), (1, .pf (x.m.ln = x.m.ln) rfl), (1, .pf (x.m.ct = x.m.ct) rfl), (1, .eq 66 66), (1, .le 66 66), (1, .pf (∀ (e : Nat), e < 66 → x.m.g e = x.m.g e) (by intros; rfl)), (1, .pf (x.l.n = x.l.n) rfl), (2, .pf (x.nc = x.nc) rfl), (1, .pf (x.l.n ≤ x.l.n) (Nat.le_refl _)), (1, .pf (∀ (e : Nat), e < x.l.n → x.l.v.k e = x.l.v.k e) (by intros; rfl)), (1, .pf (∀ (e : Nat), e < x.l.n → x.l.v.w e = x.l.v.w e) (by intros; rfl)), (1, .pf (∀ (e : Nat), e < x.l.n → x.l.v.t e = x.l.v.t e) (by intros; rfl)), (1, .pf (∀ (e : Nat), e < x.l.n → x.l.v.o e = x.l.v.o e) (by intros; rfl)), (1, .pf (∀ (e : Nat), e < x.l.n → x.l.v.l e = x.l.v.l e) (by intros; rfl)), (1, .le 0 0), (1, .pf (∀ (i : Nat), i < 0 → 0 ≤ 0) (by intros; exact Nat.le_refl _)), (1, .le 0 0), (1, .pf (∀ (i : Nat), i < 0 → 0 ≤ 0) (by intros; exact Nat.le_refl _))] V.ok)))))
    (nN [(19, .lt2 0 1 0 1), (1, .pf (x.t = x.t) rfl), (1, .eqI 8 8), (1, .eqI 27 27), (1, .eqI 5 5)]
    (V.need (okAt x.t (Int.ofNat 8) (Int.ofNat 27) (Int.ofNat 5))
    (nN [(1, .pf (∃ (x_1 : Int), x_1 = Int.ofNat 27 + x.t * Int.ofNat 5) ⟨_, rfl⟩)]
    (V.any Int (fun (r : Int) => r = Int.ofNat 27 + x.t * Int.ofNat 5) fun (x_1 : Int) => nN [(1, .pf (x_1 = x_1) rfl), (1, .pf (x.m.lk = x.m.lk) rfl), (1, .pf (x.m.lc = x.m.lc) rfl), (1, .pf (x.m.lo = x.m.lo) rfl), (1, .pf (x.m.ln = x.m.ln) rfl), (1, .pf (x.m.ct = x.m.ct) rfl), (1, .eq 66 66), (1, .le 66 66), (1, .pf (∀ (e : Nat), e < 66 → x.m.g e = x.m.g e) (by intros; rfl)), (1, .pf (∃ (x_2 : Mm), x_2 = (Mm.mk (fun (e : Nat) => x.m.g e) x.m.lk x.m.lc x.m.lo x.m.ln x.m.ct).acc 66 (Int.ofNat 1) x_1 ((Mm.mk (fun (e : Nat) => x.m.g e) x.m.lk x.m.lc x.m.lo x.m.ln x.m.ct).val 66 x_1)) ⟨_, rfl⟩)]
    (V.any Mm (fun (m' : Mm) => m' = (Mm.mk (fun (e : Nat) => x.m.g e) x.m.lk x.m.lc x.m.lo x.m.ln x.m.ct).acc 66 (Int.ofNat 1) x_1 ((Mm.mk (fun (e : Nat) => x.m.g e) x.m.lk x.m.lc x.m.lo x.m.ln x.m.ct).val 66 x_1)) fun (x_2 : Mm) => nN [(1, .pf (∃ (x_3 : Int), x_3 = (Mm.mk (fun (e : Nat) => x.m.g e) x.m.lk x.m.lc x.m.lo x.m.ln x.m.ct).val 66 x_1) ⟨_, rfl⟩)]
    (V.any Int (fun (v : Int) => v = (Mm.mk (fun (e : Nat) => x.m.g e) x.m.lk x.m.lc x.m.lo x.m.ln x.m.ct).val 66 x_1) fun (x_3 : Int) => nN [(8, .lt2 0 1 0 1)]
    (V.br (decide (IntKind.i64.wrap x_3 ≥ lv))
    (nN [(6, .lt2 0 1 0 1)]
    (V.need (I (6, XBc.mk x.t (Int.ofNat 0) (Int.ofNat 0) (Int.ofNat 0) (Int.ofNat 0) (Int.ofNat 0) (Int.ofNat 0) (Int.ofNat 0) (Int.ofNat 0) (IntKind.i64.wrap ((↑x.k : Int) + Int.ofNat 1)).toNat (Mm.mk (fun (e : Nat) => x_2.g e) x_2.lk x_2.lc x_2.lo x_2.ln x_2.ct) (El.mk x.l.n (Evs.mk (fun (i : Nat) => x.l.v.k i) (fun (i : Nat) => x.l.v.w i) (fun (i : Nat) => x.l.v.t i) (fun (i : Nat) => x.l.v.o i) fun (i : Nat) => x.l.v.l i)) x.nc))
    (V.need (200 - (IntKind.i64.wrap ((↑x.k : Int) + Int.ofNat 1)).toNat < 200 - x.k)
    (V.need (IntKind.i64.wrap ((↑x.k : Int) + Int.ofNat 1) = (↑(IntKind.i64.wrap ((↑x.k : Int) + Int.ofNat 1)).toNat : Int))
    (nN [(1, .pf (x.t = x.t) rfl), (1, .pf (lv = lv) rfl), (1, .pf (x_2.lk = x_2.lk) rfl), (1, .pf (x_2.lc = x_2.lc) rfl), (1, .pf (x_2.lo = x_2.lo) rfl), (1, .pf (x_2.ln = x_2.ln) rfl), (1, .pf (x_2.ct = x_2.ct) rfl), (1, .eq 66 66), (1, .le 66 66), (1, .pf (∀ (e : Nat), e < 66 → x_2.g e = x_2.g e) (by intros; rfl)), (1, .pf (x.l.n = x.l.n) rfl), (2, .pf (x.nc = x.nc) rfl), (1, .pf (x.l.n ≤ x.l.n) (Nat.le_refl _)), (1, .pf (∀ (e : Nat), e < x.l.n → x.l.v.k e = x.l.v.k e) (by intros; rfl)), (1, .pf (∀ (e : Nat), e < x.l.n → x.l.v.w e = x.l.v.w e) (by intros; rfl)), (1, .pf (∀ (e : Nat), e < x.l.n → x.l.v.t e = x.l.v.t e) (by intros; rfl)), (1, .pf (∀ (e : Nat), e < x.l.n → x.l.v.o e = x.l.v.o e) (by intros; rfl)), (1, .pf (∀ (e : Nat), e < x.l.n → x.l.v.l e = x.l.v.l e) (by intros; rfl)), (1, .le 0 0), (1, .pf (∀ (i : Nat), i < 0 → 0 ≤ 0) (by intros; exact Nat.le_refl _)), (1, .le 0 0), (1, .pf (∀ (i : Nat), i < 0 → 0 ≤ 0) (by intros; exact Nat.le_refl _))] V.ok)))))
    (V.need (I (1, XBc.mk x.t (Int.ofNat 2) x_3 (Int.ofNat 0) (Int.ofNat 0) (Int.ofNat 0) (Int.ofNat 0) (Int.ofNat 0) (Int.ofNat 0) (IntKind.i64.wrap ((↑x.k : Int) + Int.ofNat 1)).toNat (Mm.mk (fun (e : Nat) => x_2.g e) x_2.lk x_2.lc x_2.lo x_2.ln x_2.ct) (El.mk x.l.n (Evs.mk (fun (i : Nat) => x.l.v.k i) (fun (i : Nat) => x.l.v.w i) (fun (i : Nat) => x.l.v.t i) (fun (i : Nat) => x.l.v.o i) fun (i : Nat) => x.l.v.l i)) x.nc))
    (V.need (200 - (IntKind.i64.wrap ((↑x.k : Int) + Int.ofNat 1)).toNat < 200 - x.k)
    (V.need (IntKind.i64.wrap ((↑x.k : Int) + Int.ofNat 1) = (↑(IntKind.i64.wrap ((↑x.k : Int) + Int.ofNat 1)).toNat : Int))
    (nN [(1, .pf (x.t = x.t) rfl), (1, .pf (lv = lv) rfl), (1, .pf (x_2.lk = x_2.lk) rfl), (1, .pf (x_2.lc = x_2.lc) rfl), (1, .pf (x_2.lo = x_2.lo) rfl), (1, .pf (x_2.ln = x_2.ln) rfl), (1, .pf (x_2.ct = x_2.ct) rfl), (1, .eq 66 66), (1, .le 66 66), (1, .pf (∀ (e : Nat), e < 66 → x_2.g e = x_2.g e) (by intros; rfl)), (1, .pf (x.l.n = x.l.n) rfl), (2, .pf (x.nc = x.nc) rfl), (1, .pf (x.l.n ≤ x.l.n) (Nat.le_refl _)), (1, .pf (∀ (e : Nat), e < x.l.n → x.l.v.k e = x.l.v.k e) (by intros; rfl)), (1, .pf (∀ (e : Nat), e < x.l.n → x.l.v.w e = x.l.v.w e) (by intros; rfl)), (1, .pf (∀ (e : Nat), e < x.l.n → x.l.v.t e = x.l.v.t e) (by intros; rfl)), (1, .pf (∀ (e : Nat), e < x.l.n → x.l.v.o e = x.l.v.o e) (by intros; rfl)), (1, .pf (∀ (e : Nat), e < x.l.n → x.l.v.l e = x.l.v.l e) (by intros; rfl)), (1, .pf (x.t = x.t) rfl), (1, .pf (lv = lv) rfl), (1, .eqI 2 2), (1, .pf (x_3 = x_3) rfl), (1, .le 0 0), (1, .pf (∀ (i : Nat), i < 0 → 0 ≤ 0) (by intros; exact Nat.le_refl _))] V.ok))))))))))))
    (nN [(6, .lt2 0 1 0 1)]
    (V.need (I (6, XBc.mk x.t (Int.ofNat 0) (Int.ofNat 0) (Int.ofNat 0) (Int.ofNat 0) (Int.ofNat 0) (Int.ofNat 0) (Int.ofNat 0) (Int.ofNat 0) (IntKind.i64.wrap ((↑x.k : Int) + Int.ofNat 1)).toNat (Mm.mk (fun (e : Nat) => x.m.g e) x.m.lk x.m.lc x.m.lo x.m.ln x.m.ct) (El.mk x.l.n (Evs.mk (fun (i : Nat) => x.l.v.k i) (fun (i : Nat) => x.l.v.w i) (fun (i : Nat) => x.l.v.t i) (fun (i : Nat) => x.l.v.o i) fun (i : Nat) => x.l.v.l i)) x.nc))
    (V.need (200 - (IntKind.i64.wrap ((↑x.k : Int) + Int.ofNat 1)).toNat < 200 - x.k)
    (V.need (IntKind.i64.wrap ((↑x.k : Int) + Int.ofNat 1) = (↑(IntKind.i64.wrap ((↑x.k : Int) + Int.ofNat 1)).toNat : Int))
    (nN [(1, .pf (x.t = x.t) rfl), (1, .pf (lv = lv) rfl), (1, .pf (x.m.lk = x.m.lk) rfl), (1, .pf (x.m.lc = x.m.lc) rfl), (1, .pf (x.m.lo = x.m.lo) rfl), (1, .pf (x.m.ln = x.m.ln) rfl), (1, .pf (x.m.ct = x.m.ct) rfl), (1, .eq 66 66), (1, .le 66 66), (1, .pf (∀ (e : Nat), e < 66 → x.m.g e = x.m.g e) (by intros; rfl)), (1, .pf (x.l.n = x.l.n) rfl), (2, .pf (x.nc = x.nc) rfl), (1, .pf (x.l.n ≤ x.l.n) (Nat.le_refl _)), (1, .pf (∀ (e : Nat), e < x.l.n → x.l.v.k e = x.l.v.k e) (by intros; rfl)), (1, .pf (∀ (e : Nat), e < x.l.n → x.l.v.w e = x.l.v.w e) (by intros; rfl)), (1, .pf (∀ (e : Nat), e < x.l.n → x.l.v.t e = x.l.v.t e) (by intros; rfl)), (1, .pf (∀ (e : Nat), e < x.l.n → x.l.v.o e = x.l.v.o e) (by intros; rfl)), (1, .pf (∀ (e : Nat), e < x.l.n → x.l.v.l e = x.l.v.l e) (by intros; rfl)), (1, .le 0 0), (1, .pf (∀ (i : Nat), i < 0 → 0 ≤ 0) (by intros; exact Nat.le_refl _)), (1, .le 0 0), (1, .pf (∀ (i : Nat), i < 0 → 0 ≤ 0) (by intros; exact Nat.le_refl _))] V.ok))))))
    (nN [(6, .lt2 0 1 0 1)]
    (V.need (I (6, XBc.mk x.t (Int.ofNat 0) (Int.ofNat 0) (Int.ofNat 0) (Int.ofNat 0) (Int.ofNat 0) (Int.ofNat 0) (Int.ofNat 0) (Int.ofNat 0) (IntKind.i64.wrap ((↑x.k : Int) + Int.ofNat 1)).toNat (Mm.mk (fun (e : Nat) => x.m.g e) x.m.lk x.m.lc x.m.lo x.m.ln x.m.ct) (El.mk x.l.n (Evs.mk (fun (i : Nat) => x.l.v.k i) (fun (i : Nat) => x.l.v.w i) (fun (i : Nat) => x.l.v.t i) (fun (i : Nat) => x.l.v.o i) fun (i : Nat) => x.l.v.l i)) x.nc))
    (V.need (200 - (IntKind.i64.wrap ((↑x.k : Int) + Int.ofNat 1)).toNat < 200 - x.k)
    (V.need (IntKind.i64.wrap ((↑x.k : Int) + Int.ofNat 1) = (↑(IntKind.i64.wrap ((↑x.k : Int) + Int.ofNat 1)).toNat : Int))
    (nN [(1, .pf (x.t = x.t) rfl), (1, .pf (lv = lv) rfl), (1, .pf (x.m.lk = x.m.lk) rfl), (1, .pf (x.m.lc = x.m.lc) rfl), (1, .pf (x.m.lo = x.m.lo) rfl), (1, .pf (x.m.ln = x.m.ln) rfl), (1, .pf (x.m.ct = x.m.ct) rfl), (1, .eq 66 66), (1, .le 66 66), (1, .pf (∀ (e : Nat), e < 66 → x.m.g e = x.m.g e) (by intros; rfl)), (1, .pf (x.l.n = x.l.n) rfl), (2, .pf (x.nc = x.nc) rfl), (1, .pf (x.l.n ≤ x.l.n) (Nat.le_refl _)), (1, .pf (∀ (e : Nat), e < x.l.n → x.l.v.k e = x.l.v.k e) (by intros; rfl)), (1, .pf (∀ (e : Nat), e < x.l.n → x.l.v.w e = x.l.v.w e) (by intros; rfl)), (1, .pf (∀ (e : Nat), e < x.l.n → x.l.v.t e = x.l.v.t e) (by intros; rfl)), (1, .pf (∀ (e : Nat), e < x.l.n → x.l.v.o e = x.l.v.o e) (by intros; rfl)), (1, .pf (∀ (e : Nat), e < x.l.n → x.l.v.l e = x.l.v.l e) (by intros; rfl)), (1, .le 0 0), (1, .pf (∀ (i : Nat), i < 0 → 0 ≤ 0) (by intros; exact Nat.le_refl _)), (1, .le 0 0), (1, .pf (∀ (i : Nat), i < 0 → 0 ≤ 0) (by intros; exact Nat.le_refl _))] V.ok))))))
    (nN [(6, .lt2 0 1 0 1)]
    (V.need (I (6, XBc.mk x.t (Int.ofNat 0) (Int.ofNat 0) (Int.ofNat 0) (Int.ofNat 0) (Int.ofNat 0) (Int.ofNat 0) (Int.ofNat 0) (Int.ofNat 0) (IntKind.i64.wrap ((↑x.k : Int) + Int.ofNat 1)).toNat (Mm.mk (fun (e : Nat) => x.m.g e) x.m.lk x.m.lc x.m.lo x.m.ln x.m.ct) (El.mk x.l.n (Evs.mk (fun (i : Nat) => x.l.v.k i) (fun (i : Nat) => x.l.v.w i) (fun (i : Nat) => x.l.v.t i) (fun (i : Nat) => x.l.v.o i) fun (i : Nat) => x.l.v.l i)) x.nc))
    (V.need (200 - (IntKind.i64.wrap ((↑x.k : Int) + Int.ofNat 1)).toNat < 200 - x.k)
    (V.need (IntKind.i64.wrap ((↑x.k : Int) + Int.ofNat 1) = (↑(IntKind.i64.wrap ((↑x.k : Int) + Int.ofNat 1)).toNat : Int))
    (nN [(1, .pf (x.t = x.t) rfl), (1, .pf (lv = lv) rfl), (1, .pf (x.m.lk = x.m.lk) rfl), (1, .pf (x.m.lc = x.m.lc) rfl), (1, .pf (x.m.lo = x.m.lo) rfl), (1, .pf (x.m.ln = x.m.ln) rfl), (1, .pf (x.m.ct = x.m.ct) rfl), (1, .eq 66 66), (1, .le 66 66), (1, .pf (∀ (e : Nat), e < 66 → x.m.g e = x.m.g e) (by intros; rfl)), (1, .pf (x.l.n = x.l.n) rfl), (2, .pf (x.nc = x.nc) rfl), (1, .pf (x.l.n ≤ x.l.n) (Nat.le_refl _)), (1, .pf (∀ (e : Nat), e < x.l.n → x.l.v.k e = x.l.v.k e) (by intros; rfl)), (1, .pf (∀ (e : Nat), e < x.l.n → x.l.v.w e = x.l.v.w e) (by intros; rfl)), (1, .pf (∀ (e : Nat), e < x.l.n → x.l.v.t e = x.l.v.t e) (by intros; rfl)), (1, .pf (∀ (e : Nat), e < x.l.n → x.l.v.o e = x.l.v.o e) (by intros; rfl)), (1, .pf (∀ (e : Nat), e < x.l.n → x.l.v.l e = x.l.v.l e) (by intros; rfl)), (1, .le 0 0), (1, .pf (∀ (i : Nat), i < 0 → 0 ≤ 0) (by intros; exact Nat.le_refl _)), (1, .le 0 0), (1, .pf (∀ (i : Nat), i < 0 → 0 ≤ 0) (by intros; exact Nat.le_refl _))] V.ok))))))))
    (nN [(6, .lt2 0 1 0 1)]
    (V.need (φ (Re.mk (Int.ofNat 4) (Int.ofNat 0) (IntKind.i64.wrap ((↑x.k : Int) + Int.ofNat 1)) (Mm.mk (fun (e : Nat) => x.m.g e) x.m.lk x.m.lc x.m.lo x.m.ln x.m.ct) (El.mk x.l.n (Evs.mk (fun (i : Nat) => x.l.v.k i) (fun (i : Nat) => x.l.v.w i) (fun (i : Nat) => x.l.v.t i) (fun (i : Nat) => x.l.v.o i) fun (i : Nat) => x.l.v.l i)), x.nc))
    (nN [(1, .eqI 4 4), (1, .eqI 0 0), (1, .pf (IntKind.i64.wrap ((↑x.k : Int) + Int.ofNat 1) = IntKind.i64.wrap ((↑x.k : Int) + Int.ofNat 1)) rfl), (1, .pf (x.l.n = x.l.n) rfl), (1, .pf (x.nc = x.nc) rfl), (1, .pf (x.m.lk = x.m.lk) rfl), (1, .pf (x.m.lc = x.m.lc) rfl), (1, .pf (x.m.lo = x.m.lo) rfl), (1, .pf (x.m.ln = x.m.ln) rfl), (1, .pf (x.m.ct = x.m.ct) rfl), (1, .eq 66 66), (1, .le 66 66), (1, .pf (∀ (e : Nat), e < 66 → x.m.g e = x.m.g e) (by intros; rfl)), (1, .pf (x.nc = x.nc) rfl), (1, .pf (x.l.n ≤ x.l.n) (Nat.le_refl _)), (1, .pf (∀ (e : Nat), e < x.l.n → x.l.v.k e = x.l.v.k e) (by intros; rfl)), (1, .pf (∀ (e : Nat), e < x.l.n → x.l.v.w e = x.l.v.w e) (by intros; rfl)), (1, .pf (∀ (e : Nat), e < x.l.n → x.l.v.t e = x.l.v.t e) (by intros; rfl)), (1, .pf (∀ (e : Nat), e < x.l.n → x.l.v.o e = x.l.v.o e) (by intros; rfl)), (1, .pf (∀ (e : Nat), e < x.l.n → x.l.v.l e = x.l.v.l e) (by intros; rfl))] V.ok))))
    (nN [(6, .lt2 0 1 0 1)]
    (V.need (φ (Re.mk (Int.ofNat 4) (Int.ofNat 0) (IntKind.i64.wrap ((↑x.k : Int) + Int.ofNat 1)) (Mm.mk (fun (e : Nat) => x.m.g e) x.m.lk x.m.lc x.m.lo x.m.ln x.m.ct) (El.mk x.l.n (Evs.mk (fun (i : Nat) => x.l.v.k i) (fun (i : Nat) => x.l.v.w i) (fun (i : Nat) => x.l.v.t i) (fun (i : Nat) => x.l.v.o i) fun (i : Nat) => x.l.v.l i)), x.nc))
    (nN [(1, .eqI 4 4), (1, .eqI 0 0), (1, .pf (IntKind.i64.wrap ((↑x.k : Int) + Int.ofNat 1) = IntKind.i64.wrap ((↑x.k : Int) + Int.ofNat 1)) rfl), (1, .pf (x.l.n = x.l.n) rfl), (1, .pf (x.nc = x.nc) rfl), (1, .pf (x.m.lk = x.m.lk) rfl), (1, .pf (x.m.lc = x.m.lc) rfl), (1, .pf (x.m.lo = x.m.lo) rfl), (1, .pf (x.m.ln = x.m.ln) rfl), (1, .pf (x.m.ct = x.m.ct) rfl), (1, .eq 66 66), (1, .le 66 66), (1, .pf (∀ (e : Nat), e < 66 → x.m.g e = x.m.g e) (by intros; rfl)), (1, .pf (x.nc = x.nc) rfl), (1, .pf (x.l.n ≤ x.l.n) (Nat.le_refl _)), (1, .pf (∀ (e : Nat), e < x.l.n → x.l.v.k e = x.l.v.k e) (by intros; rfl)), (1, .pf (∀ (e : Nat), e < x.l.n → x.l.v.w e = x.l.v.w e) (by intros; rfl)), (1, .pf (∀ (e : Nat), e < x.l.n → x.l.v.t e = x.l.v.t e) (by intros; rfl)), (1, .pf (∀ (e : Nat), e < x.l.n → x.l.v.o e = x.l.v.o e) (by intros; rfl)), (1, .pf (∀ (e : Nat), e < x.l.n → x.l.v.l e = x.l.v.l e) (by intros; rfl))] V.ok))))
    (nN [(6, .lt2 0 1 0 1)]
    (V.need (φ (Re.mk (Int.ofNat 4) (Int.ofNat 0) (IntKind.i64.wrap ((↑x.k : Int) + Int.ofNat 1)) (Mm.mk (fun (e : Nat) => x.m.g e) x.m.lk x.m.lc x.m.lo x.m.ln x.m.ct) (El.mk x.l.n (Evs.mk (fun (i : Nat) => x.l.v.k i) (fun (i : Nat) => x.l.v.w i) (fun (i : Nat) => x.l.v.t i) (fun (i : Nat) => x.l.v.o i) fun (i : Nat) => x.l.v.l i)), x.nc))
    (nN [(1, .eqI 4 4), (1, .eqI 0 0), (1, .pf (IntKind.i64.wrap ((↑x.k : Int) + Int.ofNat 1) = IntKind.i64.wrap ((↑x.k : Int) + Int.ofNat 1)) rfl), (1, .pf (x.l.n = x.l.n) rfl), (1, .pf (x.nc = x.nc) rfl), (1, .pf (x.m.lk = x.m.lk) rfl), (1, .pf (x.m.lc = x.m.lc) rfl), (1, .pf (x.m.lo = x.m.lo) rfl), (1, .pf (x.m.ln = x.m.ln) rfl), (1, .pf (x.m.ct = x.m.ct) rfl), (1, .eq 66 66), (1, .le 66 66), (1, .pf (∀ (e : Nat), e < 66 → x.m.g e = x.m.g e) (by intros; rfl)), (1, .pf (x.nc = x.nc) rfl), (1, .pf (x.l.n ≤ x.l.n) (Nat.le_refl _)), (1, .pf (∀ (e : Nat), e < x.l.n → x.l.v.k e = x.l.v.k e) (by intros; rfl)), (1, .pf (∀ (e : Nat), e < x.l.n → x.l.v.w e = x.l.v.w e) (by intros; rfl)), (1, .pf (∀ (e : Nat), e < x.l.n → x.l.v.t e = x.l.v.t e) (by intros; rfl)), (1, .pf (∀ (e : Nat), e < x.l.n → x.l.v.o e = x.l.v.o e) (by intros; rfl)), (1, .pf (∀ (e : Nat), e < x.l.n → x.l.v.l e = x.l.v.l e) (by intros; rfl))] V.ok)))))
    (V.need (φ (Re.mk (Int.negSucc 0) (Int.ofNat 0) (↑x.k : Int) (Mm.mk (fun (e : Nat) => x.m.g e) x.m.lk x.m.lc x.m.lo x.m.ln x.m.ct) (El.mk x.l.n (Evs.mk (fun (i : Nat) => x.l.v.k i) (fun (i : Nat) => x.l.v.w i) (fun (i : Nat) => x.l.v.t i) (fun (i : Nat) => x.l.v.o i) fun (i : Nat) => x.l.v.l i)), x.nc))
    (nN [(1, .pf (Int.negSucc 0 = Int.negSucc 0) rfl), (1, .eqI 0 0), (1, .pf ((↑x.k : Int) = (↑x.k : Int)) rfl), (1, .pf (x.l.n = x.l.n) rfl), (1, .pf (x.nc = x.nc) rfl), (1, .pf (x.m.lk = x.m.lk) rfl), (1, .pf (x.m.lc = x.m.lc) rfl), (1, .pf (x.m.lo = x.m.lo) rfl), (1, .pf (x.m.ln = x.m.ln) rfl), (1, .pf (x.m.ct = x.m.ct) rfl), (1, .eq 66 66), (1, .le 66 66), (1, .pf (∀ (e : Nat), e < 66 → x.m.g e = x.m.g e) (by intros; rfl)), (1, .pf (x.nc = x.nc) rfl), (1, .pf (x.l.n ≤ x.l.n) (Nat.le_refl _)), (1, .pf (∀ (e : Nat), e < x.l.n → x.l.v.k e = x.l.v.k e) (by intros; rfl)), (1, .pf (∀ (e : Nat), e < x.l.n → x.l.v.w e = x.l.v.w e) (by intros; rfl)), (1, .pf (∀ (e : Nat), e < x.l.n → x.l.v.t e = x.l.v.t e) (by intros; rfl)), (1, .pf (∀ (e : Nat), e < x.l.n → x.l.v.o e = x.l.v.o e) (by intros; rfl)), (1, .pf (∀ (e : Nat), e < x.l.n → x.l.v.l e = x.l.v.l e) (by intros; rfl))] V.ok)))
    (V.any Bool (fun (x : Bool) => True) fun (b : Bool) => V.br b
    (V.any XBc (fun (x : XBc) => I (1, x)) fun (x : XBc) => V.br (decide ((↑x.k : Int) < Int.ofNat 200))
    (nN [(6, .lt2 0 1 0 1)]
    (V.br (decide (x.t ≥ Int.ofNat 0))
    (V.br (decide (x.t < Int.ofNat 8))
    (V.br (decide (lv ≥ Int.ofNat 0))
    (V.br (!decide (lv < Int.ofNat 3))
    (nN [(6, .lt2 0 1 0 1)]
    (V.need (I (6, XBc.mk x.t (Int.ofNat 0) (Int.ofNat 0) (Int.ofNat 0) (Int.ofNat 0) (Int.ofNat 0) (Int.ofNat 0) (Int.ofNat 0) (Int.ofNat 0) (IntKind.i64.wrap ((↑x.k : Int) + Int.ofNat 1)).toNat (Mm.mk (fun (e : Nat) => x.m.g e) x.m.lk x.m.lc x.m.lo x.m.ln x.m.ct) (El.mk x.l.n (Evs.mk (fun (i : Nat) => x.l.v.k i) (fun (i : Nat) => x.l.v.w i) (fun (i : Nat) => x.l.v.t i) (fun (i : Nat) => x.l.v.o i) fun (i : Nat) => x.l.v.l i)) x.nc))
    (V.need (200 - (IntKind.i64.wrap ((↑x.k : Int) + Int.ofNat 1)).toNat < 200 - x.k)
    (V.need (IntKind.i64.wrap ((↑x.k : Int) + Int.ofNat 1) = (↑(IntKind.i64.wrap ((↑x.k : Int) + Int.ofNat 1)).toNat : Int))
    (nN [(1, .pf (x.t = x.t) rfl), (1, .pf (lv = lv) rfl), (1, .pf (x.m.lk = x.m.lk) rfl), (1, .pf (x.m.lc = x.m.lc) rfl), (1, .pf (x.m.lo = x.m.lo) rfl), (1, .pf (x.m.ln = x.m.ln) rfl), (1, .pf (x.m.ct = x.m.ct) rfl), (1, .eq 66 66), (1, .le 66 66), (1, .pf (∀ (e : Nat), e < 66 → x.m.g e = x.m.g e) (by intros; rfl)), (1, .pf (x.l.n = x.l.n) rfl), (2, .pf (x.nc = x.nc) rfl), (1, .pf (x.l.n ≤ x.l.n) (Nat.le_refl _)), (1, .pf (∀ (e : Nat), e < x.l.n → x.l.v.k e = x.l.v.k e) (by intros; rfl)), (1, .pf (∀ (e : Nat), e < x.l.n → x.l.v.w e = x.l.v.w e) (by intros; rfl)), (1, .pf (∀ (e : Nat), e < x.l.n → x.l.v.t e = x.l.v.t e) (by intros; rfl)), (1, .pf (∀ (e : Nat), e < x.l.n → x.l.v.o e = x.l.v.o e) (by intros; rfl)), (1, .pf (∀ (e : Nat), e < x.l.n → x.l.v.l e = x.l.v.l e) (by intros; rfl)), (1, .le 0 0), (1, .pf (∀ (i : Nat), i < 0 → 0 ≤ 0) (by intros; exact Nat.le_refl _))] V.ok)))))
    (V.br (x.rl == Int.ofNat 1)
    (nN [(19, .lt2 0 1 0 1), (1, .pf (x.t = x.t) rfl), (1, .eqI 8 8), (1, .eqI 27 27), (1, .eqI 5 5)]
    (V.need (okAt x.t (Int.ofNat 8) (Int.ofNat 27) (Int.ofNat 5))
    (nN [(1, .pf (∃ (x_1 : Int), x_1 = Int.ofNat 27 + x.t * Int.ofNat 5) ⟨_, rfl⟩)]
    (V.any Int (fun (r : Int) => r = Int.ofNat 27 + x.t * Int.ofNat 5) fun (x_1 : Int) => nN [(1, .pf (x_1 = x_1) rfl), (1, .pf (x.m.lk = x.m.lk) rfl), (1, .pf (x.m.lc = x.m.lc) rfl), (1, .pf (x.m.lo = x.m.lo) rfl), (1, .pf (x.m.ln = x.m.ln) rfl), (1, .pf (x.m.ct = x.m.ct) rfl), (1, .eq 66 66), (1, .le 66 66), (1, .pf (∀ (e : Nat), e < 66 → x.m.g e = x.m.g e) (by intros; rfl)), (1, .pf (∃ (x_2 : Mm), x_2 = (Mm.mk (fun (e : Nat) => x.m.g e) x.m.lk x.m.lc x.m.lo x.m.ln x.m.ct).acc 66 (Int.ofNat 1) x_1 ((Mm.mk (fun (e : Nat) => x.m.g e) x.m.lk x.m.lc x.m.lo x.m.ln x.m.ct).val 66 x_1)) ⟨_, rfl⟩)]
    (V.any Mm (fun (m' : Mm) => m' = (Mm.mk (fun (e : Nat) => x.m.g e) x.m.lk x.m.lc x.m.lo x.m.ln x.m.ct).acc 66 (Int.ofNat 1) x_1 ((Mm.mk (fun (e : Nat) => x.m.g e) x.m.lk x.m.lc x.m.lo x.m.ln x.m.ct).val 66 x_1)) fun (x_2 : Mm) => nN [(1, .pf (∃ (x_3 : Int), x_3 = (Mm.mk (fun (e : Nat) => x.m.g e) x.m.lk x.m.lc x.m.lo x.m.ln x.m.ct).val 66 x_1) ⟨_, rfl⟩)]
    (V.any Int (fun (v : Int) => v = (Mm.mk (fun (e : Nat) => x.m.g e) x.m.lk x.m.lc x.m.lo x.m.ln x.m.ct).val 66 x_1) fun (x_3 : Int) => nN [(8, .lt2 0 1 0 1)]
    (V.br (decide (IntKind.i64.wrap x_3 ≥ lv))
    (nN [(6, .lt2 0 1 0 1)]
    (V.need (I (6, XBc.mk x.t (Int.ofNat 0) (Int.ofNat 0) (Int.ofNat 0) (Int.ofNat 0) (Int.ofNat 0) (Int.ofNat 0) (Int.ofNat 0) (Int.ofNat 0) (IntKind.i64.wrap ((↑x.k : Int) + Int.ofNat 1)).toNat (Mm.mk (fun (e : Nat) => x_2.g e) x_2.lk x_2.lc x_2.lo x_2.ln x_2.ct) (El.mk x.l.n (Evs.mk (fun (i : Nat) => x.l.v.k i) (fun (i : Nat) => x.l.v.w i) (fun (i : Nat) => x.l.v.t i) (fun (i : Nat) => x.l.v.o i) fun (i : Nat) => x.l.v.l i)) x.nc))
    (V.need (200 - (IntKind.i64.wrap ((↑x.k : Int) + Int.ofNat 1)).toNat < 200 - x.k)
    (V.need (IntKind.i64.wrap ((↑x.k : Int) + Int.ofNat 1) = (↑(IntKind.i64.wrap ((↑x.k : Int) + Int.ofNat 1)).toNat : Int))
    (nN [(1, .pf (x.t = x.t) rfl), (1, .pf (lv = lv) rfl), (1, .pf (x_2.lk = x_2.lk) rfl), (1, .pf (x_2.lc = x_2.lc) rfl), (1, .pf (x_2.lo = x_2.lo) rfl), (1, .pf (x_2.ln = x_2.ln) rfl), (1, .pf (x_2.ct = x_2.ct) rfl), (1, .eq 66 66), (1, .le 66 66), (1, .pf (∀ (e : Nat), e < 66 → x_2.g e = x_2.g e) (by intros; rfl)), (1, .pf (x.l.n = x.l.n) rfl), (2, .pf (x.nc = x.nc) rfl), (1, .pf (x.l.n ≤ x.l.n) (Nat.le_refl _)), (1, .pf (∀ (e : Nat), e < x.l.n → x.l.v.k e = x.l.v.k e) (by intros; rfl)), (1, .pf (∀ (e : Nat), e < x.l.n → x.l.v.w e = x.l.v.w e) (by intros; rfl)), (1, .pf (∀ (e : Nat), e < x.l.n → x.l.v.t e = x.l.v.t e) (by intros; rfl)), (1, .pf (∀ (e : Nat), e < x.l.n → x.l.v.o e = x.l.v.o e) (by intros; rfl)), (1, .pf (∀ (e : Nat), e < x.l.n → x.l.v.l e = x.l.v.l e) (by intros; rfl)), (1, .le 0 0), (1, .pf (∀ (i : Nat), i < 0 → 0 ≤ 0) (by intros; exact Nat.le_refl _))] V.ok)))))
    (V.need (I (1, XBc.mk x.t (Int.ofNat 2) x_3 (Int.ofNat 0) (Int.ofNat 0) (Int.ofNat 0) (Int.ofNat 0) (Int.ofNat 0) (Int.ofNat 0) (IntKind.i64.wrap ((↑x.k : Int) + Int.ofNat 1)).toNat (Mm.mk (fun (e : Nat) => x_2.g e) x_2.lk x_2.lc x_2.lo x_2.ln x_2.ct) (El.mk x.l.n (Evs.mk (fun (i : Nat) => x.l.v.k i) (fun (i : Nat) => x.l.v.w i) (fun (i : Nat) => x.l.v.t i) (fun (i : Nat) => x.l.v.o i) fun (i : Nat) => x.l.v.l i)) x.nc))
    (V.need (200 - (IntKind.i64.wrap ((↑x.k : Int) + Int.ofNat 1)).toNat < 200 - x.k)
    (V.need (IntKind.i64.wrap ((↑x.k : Int) + Int.ofNat 1) = (↑(IntKind.i64.wrap ((↑x.k : Int) + Int.ofNat 1)).toNat : Int))
    (nN [(1, .pf (x.t = x.t) rfl), (1, .pf (lv = lv) rfl), (1, .pf (x_2.lk = x_2.lk) rfl), (1, .pf (x_2.lc = x_2.lc) rfl), (1, .pf (x_2.lo = x_2.lo) rfl), (1, .pf (x_2.ln = x_2.ln) rfl), (1, .pf (x_2.ct = x_2.ct) rfl), (1, .eq 66 66), (1, .le 66 66), (1, .pf (∀ (e : Nat), e < 66 → x_2.g e = x_2.g e) (by intros; rfl)), (1, .pf (x.l.n = x.l.n) rfl), (2, .pf (x.nc = x.nc) rfl), (1, .pf (x.l.n ≤ x.l.n) (Nat.le_refl _)), (1, .pf (∀ (e : Nat), e < x.l.n → x.l.v.k e = x.l.v.k e) (by intros; rfl)), (1, .pf (∀ (e : Nat), e < x.l.n → x.l.v.w e = x.l.v.w e) (by intros; rfl)), (1, .pf (∀ (e : Nat), e < x.l.n → x.l.v.t e = x.l.v.t e) (by intros; rfl)), (1, .pf (∀ (e : Nat), e < x.l.n → x.l.v.o e = x.l.v.o e) (by intros; rfl)), (1, .pf (∀ (e : Nat), e < x.l.n → x.l.v.l e = x.l.v.l e) (by intros; rfl)), (1, .pf (x.t = x.t) rfl), (1, .pf (lv = lv) rfl), (1, .eqI 2 2), (1, .pf (x_3 = x_3) rfl), (1, .le 0 0), (1, .pf (∀ (i : Nat), i < 0 → 0 ≤ 0) (by intros; exact Nat.le_refl _))] V.ok)))))))))))
    (nN [(19, .lt2 0 1 0 1), (1, .pf (x.t = x.t) rfl), (1, .eqI 8 8), (1, .eqI 27 27), (1, .eqI 5 5)]
    (V.need (okAt x.t (Int.ofNat 8) (Int.ofNat 27) (Int.ofNat 5))
    (nN [(1, .pf (∃ (x_1 : Int), x_1 = Int.ofNat 27 + x.t * Int.ofNat 5) ⟨_, rfl⟩)]
    (V.any Int (fun (r : Int) => r = Int.ofNat 27 + x.t * Int.ofNat 5) fun (x_1 : Int) => nN [(6, .lt2 0 1 0 1), (1, .pf (x_1 = x_1) rfl), (1, .pf (x.q = x.q) rfl), (1, .pf (IntKind.u64.wrap lv = IntKind.u64.wrap lv) rfl), (1, .pf (x.m.lk = x.m.lk) rfl), (1, .pf (x.m.lc = x.m.lc) rfl), (1, .pf (x.m.lo = x.m.lo) rfl), (1, .pf (x.m.ln = x.m.ln) rfl), (1, .pf (x.m.ct = x.m.ct) rfl), (1, .eq 66 66), (1, .le 66 66), (1, .pf (∀ (e : Nat), e < 66 → x.m.g e = x.m.g e) (by intros; rfl)), (1, .pf (∃ (x_2 : Mm), x_2 = (Mm.mk (fun (e : Nat) => x.m.g e) x.m.lk x.m.lc x.m.lo x.m.ln x.m.ct).acc 66 (Int.ofNat 3) x_1 (casV ((Mm.mk (fun (e : Nat) => x.m.g e) x.m.lk x.m.lc x.m.lo x.m.ln x.m.ct).hit 66 x_1 x.q) ((Mm.mk (fun (e : Nat) => x.m.g e) x.m.lk x.m.lc x.m.lo x.m.ln x.m.ct).val 66 x_1) (IntKind.u64.wrap lv))) ⟨_, rfl⟩)]
    (V.any Mm (fun (m' : Mm) => m' = (Mm.mk (fun (e : Nat) => x.m.g e) x.m.lk x.m.lc x.m.lo x.m.ln x.m.ct).acc 66 (Int.ofNat 3) x_1 (casV ((Mm.mk (fun (e : Nat) => x.m.g e) x.m.lk x.m.lc x.m.lo x.m.ln x.m.ct).hit 66 x_1 x.q) ((Mm.mk (fun (e : Nat) => x.m.g e) x.m.lk x.m.lc x.m.lo x.m.ln x.m.ct).val 66 x_1) (IntKind.u64.wrap lv))) fun (x_2 : Mm) => nN [(1, .pf (∃ (x_3 : Bool), x_3 = (Mm.mk (fun (e : Nat) => x.m.g e) x.m.lk x.m.lc x.m.lo x.m.ln x.m.ct).hit 66 x_1 x.q) ⟨_, rfl⟩)]
    (V.any Bool (fun (v : Bool) => v = (Mm.mk (fun (e : Nat) => x.m.g e) x.m.lk x.m.lc x.m.lo x.m.ln x.m.ct).hit 66 x_1 x.q) fun (x_3 : Bool) => V.br x_3
    (nN [(22, .lt2 0 1 0 1)]
    (V.need (x.l.n ≤ x.l.n ∧ x.nc = x.nc)
    (V.need (x.l.n + 1 ≤ 9223372036854775807 ∧ (x.l.n + 1) * 40 ≤ 140737488355328)
    (V.any Nat (fun (x_4 : Nat) => x.l.n + 1 ≤ x_4) fun (x_4 : Nat) => nN [(8, .lt2 0 1 0 1)]
    (V.need (I (2, XBc.mk x.t (Int.ofNat 0) (Int.ofNat 0) (Int.ofNat 0) (Int.ofNat 0) (Int.ofNat 0) (Int.ofNat 0) (Int.ofNat 0) (Int.ofNat 0) (IntKind.i64.wrap ((↑x.k : Int) + Int.ofNat 1)).toNat (Mm.mk (fun (e : Nat) => x_2.g e) x_2.lk x_2.lc x_2.lo x_2.ln x_2.ct) (El.mk (x.l.n + 1) (Evs.mk (fun (i : Nat) => if 0 = 0 ∧ i = x.l.n then Int.ofNat 11 else x.l.v.k i) (fun (i : Nat) => if 0 = 0 ∧ i = x.l.n then Int.ofNat 0 else x.l.v.w i) (fun (i : Nat) => if 0 = 0 ∧ i = x.l.n then x.t else x.l.v.t i) (fun (i : Nat) => if 0 = 0 ∧ i = x.l.n then Int.ofNat 0 else x.l.v.o i) fun (i : Nat) => if 0 = 0 ∧ i = x.l.n then lv else x.l.v.l i)) x_4))
    (V.need (200 - (IntKind.i64.wrap ((↑x.k : Int) + Int.ofNat 1)).toNat < 200 - x.k)
    (V.need (IntKind.i64.wrap ((↑x.k : Int) + Int.ofNat 1) = (↑(IntKind.i64.wrap ((↑x.k : Int) + Int.ofNat 1)).toNat : Int))
    (nN [(1, .pf (x.t = x.t) rfl), (1, .pf (lv = lv) rfl), (1, .pf (x_2.lk = x_2.lk) rfl), (1, .pf (x_2.lc = x_2.lc) rfl), (1, .pf (x_2.lo = x_2.lo) rfl), (1, .pf (x_2.ln = x_2.ln) rfl), (1, .pf (x_2.ct = x_2.ct) rfl), (1, .eq 66 66), (1, .le 66 66), (1, .pf (∀ (e : Nat), e < 66 → x_2.g e = x_2.g e) (by intros; rfl)), (1, .pf (x.l.n + 1 = x.l.n + 1) rfl), (2, .pf (x_4 = x_4) rfl)]
    (V.need (x.l.n + 1 ≤ x.l.n + 1)
    (V.need (∀ (e : Nat), e < x.l.n + 1 → (if 0 = 0 ∧ e = x.l.n then Int.ofNat 11 else x.l.v.k e) = if 0 = 0 ∧ e = x.l.n then Int.ofNat 11 else x.l.v.k e)
    (V.need (∀ (e : Nat), e < x.l.n + 1 → (if 0 = 0 ∧ e = x.l.n then Int.ofNat 0 else x.l.v.w e) = if 0 = 0 ∧ e = x.l.n then Int.ofNat 0 else x.l.v.w e)
    (V.need (∀ (e : Nat), e < x.l.n + 1 → (if 0 = 0 ∧ e = x.l.n then x.t else x.l.v.t e) = if 0 = 0 ∧ e = x.l.n then x.t else x.l.v.t e)
    (V.need (∀ (e : Nat), e < x.l.n + 1 → (if 0 = 0 ∧ e = x.l.n then Int.ofNat 0 else x.l.v.o e) = if 0 = 0 ∧ e = x.l.n then Int.ofNat 0 else x.l.v.o e)
    (V.need (∀ (e : Nat), e < x.l.n + 1 → (if 0 = 0 ∧ e = x.l.n then lv else x.l.v.l e) = if 0 = 0 ∧ e = x.l.n then lv else x.l.v.l e)
    (nN [(1, .le 0 0), (1, .pf (∀ (i : Nat), i < 0 → 0 ≤ 0) (by intros; exact Nat.le_refl _))] V.ok)))))))))))))))
    (V.need (I (1, XBc.mk x.t (Int.ofNat 1) x.q (Int.ofNat 0) (Int.ofNat 0) (Int.ofNat 0) (Int.ofNat 0) (Int.ofNat 0) (Int.ofNat 0) (IntKind.i64.wrap ((↑x.k : Int) + Int.ofNat 1)).toNat (Mm.mk (fun (e : Nat) => x_2.g e) x_2.lk x_2.lc x_2.lo x_2.ln x_2.ct) (El.mk x.l.n (Evs.mk (fun (i : Nat) => x.l.v.k i) (fun (i : Nat) => x.l.v.w i) (fun (i : Nat) => x.l.v.t i) (fun (i : Nat) => x.l.v.o i) fun (i : Nat) => x.l.v.l i)) x.nc))
    (V.need (200 - (IntKind.i64.wrap ((↑x.k : Int) + Int.ofNat 1)).toNat < 200 - x.k)
    (V.need (IntKind.i64.wrap ((↑x.k : Int) + Int.ofNat 1) = (↑(IntKind.i64.wrap ((↑x.k : Int) + Int.ofNat 1)).toNat : Int))
    (nN [(1, .pf (x.t = x.t) rfl), (1, .pf (lv = lv) rfl), (1, .pf (x_2.lk = x_2.lk) rfl), (1, .pf (x_2.lc = x_2.lc) rfl), (1, .pf (x_2.lo = x_2.lo) rfl), (1, .pf (x_2.ln = x_2.ln) rfl), (1, .pf (x_2.ct = x_2.ct) rfl), (1, .eq 66 66), (1, .le 66 66), (1, .pf (∀ (e : Nat), e < 66 → x_2.g e = x_2.g e) (by intros; rfl)), (1, .pf (x.l.n = x.l.n) rfl), (2, .pf (x.nc = x.nc) rfl), (1, .pf (x.l.n ≤ x.l.n) (Nat.le_refl _)), (1, .pf (∀ (e : Nat), e < x.l.n → x.l.v.k e = x.l.v.k e) (by intros; rfl)), (1, .pf (∀ (e : Nat), e < x.l.n → x.l.v.w e = x.l.v.w e) (by intros; rfl)), (1, .pf (∀ (e : Nat), e < x.l.n → x.l.v.t e = x.l.v.t e) (by intros; rfl)), (1, .pf (∀ (e : Nat), e < x.l.n → x.l.v.o e = x.l.v.o e) (by intros; rfl)), (1, .pf (∀ (e : Nat), e < x.l.n → x.l.v.l e = x.l.v.l e) (by intros; rfl)), (1, .pf (x.t = x.t) rfl), (1, .pf (lv = lv) rfl), (1, .eqI 1 1), (1, .pf (x.q = x.q) rfl), (1, .le 0 0), (1, .pf (∀ (i : Nat), i < 0 → 0 ≤ 0) (by intros; exact Nat.le_refl _))] V.ok))))))))))))
    (nN [(6, .lt2 0 1 0 1)]
    (V.need (I (6, XBc.mk x.t (Int.ofNat 0) (Int.ofNat 0) (Int.ofNat 0) (Int.ofNat 0) (Int.ofNat 0) (Int.ofNat 0) (Int.ofNat 0) (Int.ofNat 0) (IntKind.i64.wrap ((↑x.k : Int) + Int.ofNat 1)).toNat (Mm.mk (fun (e : Nat) => x.m.g e) x.m.lk x.m.lc x.m.lo x.m.ln x.m.ct) (El.mk x.l.n (Evs.mk (fun (i : Nat) => x.l.v.k i) (fun (i : Nat) => x.l.v.w i) (fun (i : Nat) => x.l.v.t i) (fun (i : Nat) => x.l.v.o i) fun (i : Nat) => x.l.v.l i)) x.nc))
    (V.need (200 - (IntKind.i64.wrap ((↑x.k : Int) + Int.ofNat 1)).toNat < 200 - x.k)
    (V.need (IntKind.i64.wrap ((↑x.k : Int) + Int.ofNat 1) = (↑(IntKind.i64.wrap ((↑x.k : Int) + Int.ofNat 1)).toNat : Int))
    (nN [(1, .pf (x.t = x.t) rfl), (1, .pf (lv = lv) rfl), (1, .pf (x.m.lk = x.m.lk) rfl), (1, .pf (x.m.lc = x.m.lc) rfl), (1, .pf (x.m.lo = x.m.lo) rfl), (1, .pf (x.m.ln = x.m.ln) rfl), (1, .pf (x.m.ct = x.m.ct) rfl), (1, .eq 66 66), (1, .le 66 66), (1, .pf (∀ (e : Nat), e < 66 → x.m.g e = x.m.g e) (by intros; rfl)), (1, .pf (x.l.n = x.l.n) rfl), (2, .pf (x.nc = x.nc) rfl), (1, .pf (x.l.n ≤ x.l.n) (Nat.le_refl _)), (1, .pf (∀ (e : Nat), e < x.l.n → x.l.v.k e = x.l.v.k e) (by intros; rfl)), (1, .pf (∀ (e : Nat), e < x.l.n → x.l.v.w e = x.l.v.w e) (by intros; rfl)), (1, .pf (∀ (e : Nat), e < x.l.n → x.l.v.t e = x.l.v.t e) (by intros; rfl)), (1, .pf (∀ (e : Nat), e < x.l.n → x.l.v.o e = x.l.v.o e) (by intros; rfl)), (1, .pf (∀ (e : Nat), e < x.l.n → x.l.v.l e = x.l.v.l e) (by intros; rfl)), (1, .le 0 0), (1, .pf (∀ (i : Nat), i < 0 → 0 ≤ 0) (by intros; exact Nat.le_refl _))] V.ok))))))
    (nN [(6, .lt2 0 1 0 1)]
    (V.need (I (6, XBc.mk x.t (Int.ofNat 0) (Int.ofNat 0) (Int.ofNat 0) (Int.ofNat 0) (Int.ofNat 0) (Int.ofNat 0) (Int.ofNat 0) (Int.ofNat 0) (IntKind.i64.wrap ((↑x.k : Int) + Int.ofNat 1)).toNat (Mm.mk (fun (e : Nat) => x.m.g e) x.m.lk x.m.lc x.m.lo x.m.ln x.m.ct) (El.mk x.l.n (Evs.mk (fun (i : Nat) => x.l.v.k i) (fun (i : Nat) => x.l.v.w i) (fun (i : Nat) => x.l.v.t i) (fun (i : Nat) => x.l.v.o i) fun (i : Nat) => x.l.v.l i)) x.nc))
    (V.need (200 - (IntKind.i64.wrap ((↑x.k : Int) + Int.ofNat 1)).toNat < 200 - x.k)
    (V.need (IntKind.i64.wrap ((↑x.k : Int) + Int.ofNat 1) = (↑(IntKind.i64.wrap ((↑x.k : Int) + Int.ofNat 1)).toNat : Int))
    (nN [(1, .pf (x.t = x.t) rfl), (1, .pf (lv = lv) rfl), (1, .pf (x.m.lk = x.m.lk) rfl), (1, .pf (x.m.lc = x.m.lc) rfl), (1, .pf (x.m.lo = x.m.lo) rfl), (1, .pf (x.m.ln = x.m.ln) rfl), (1, .pf (x.m.ct = x.m.ct) rfl), (1, .eq 66 66), (1, .le 66 66), (1, .pf (∀ (e : Nat), e < 66 → x.m.g e = x.m.g e) (by intros; rfl)), (1, .pf (x.l.n = x.l.n) rfl), (2, .pf (x.nc = x.nc) rfl), (1, .pf (x.l.n ≤ x.l.n) (Nat.le_refl _)), (1, .pf (∀ (e : Nat), e < x.l.n → x.l.v.k e = x.l.v.k e) (by intros; rfl)), (1, .pf (∀ (e : Nat), e < x.l.n → x.l.v.w e = x.l.v.w e) (by intros; rfl)), (1, .pf (∀ (e : Nat), e < x.l.n → x.l.v.t e = x.l.v.t e) (by intros; rfl)), (1, .pf (∀ (e : Nat), e < x.l.n → x.l.v.o e = x.l.v.o e) (by intros; rfl)), (1, .pf (∀ (e : Nat), e < x.l.n → x.l.v.l e = x.l.v.l e) (by intros; rfl)), (1, .le 0 0), (1, .pf (∀ (i : Nat), i < 0 → 0 ≤ 0) (by intros; exact Nat.le_refl _))] V.ok))))))
    (nN [(6, .lt2 0 1 0 1)]
    (V.need (I (6, XBc.mk x.t (Int.ofNat 0) (Int.ofNat 0) (Int.ofNat 0) (Int.ofNat 0) (Int.ofNat 0) (Int.ofNat 0) (Int.ofNat 0) (Int.ofNat 0) (IntKind.i64.wrap ((↑x.k : Int) + Int.ofNat 1)).toNat (Mm.mk (fun (e : Nat) => x.m.g e) x.m.lk x.m.lc x.m.lo x.m.ln x.m.ct) (El.mk x.l.n (Evs.mk (fun (i : Nat) => x.l.v.k i) (fun (i : Nat) => x.l.v.w i) (fun (i : Nat) => x.l.v.t i) (fun (i : Nat) => x.l.v.o i) fun (i : Nat) => x.l.v.l i)) x.nc))
    (V.need (200 - (IntKind.i64.wrap ((↑x.k : Int) + Int.ofNat 1)).toNat < 200 - x.k)
    (V.need (IntKind.i64.wrap ((↑x.k : Int) + Int.ofNat 1) = (↑(IntKind.i64.wrap ((↑x.k : Int) + Int.ofNat 1)).toNat : Int))
    (nN [(1, .pf (x.t = x.t) rfl), (1, .pf (lv = lv) rfl), (1, .pf (x.m.lk = x.m.lk) rfl), (1, .pf (x.m.lc = x.m.lc) rfl), (1, .pf (x.m.lo = x.m.lo) rfl), (1, .pf (x.m.ln = x.m.ln) rfl), (1, .pf (x.m.ct = x.m.ct) rfl), (1, .eq 66 66), (1, .le 66 66), (1, .pf (∀ (e : Nat), e < 66 → x.m.g e = x.m.g e) (by intros; rfl)), (1, .pf (x.l.n = x.l.n) rfl), (2, .pf (x.nc = x.nc) rfl), (1, .pf (x.l.n ≤ x.l.n) (Nat.le_refl _)), (1, .pf (∀ (e : Nat), e < x.l.n → x.l.v.k e = x.l.v.k e) (by intros; rfl)), (1, .pf (∀ (e : Nat), e < x.l.n → x.l.v.w e = x.l.v.w e) (by intros; rfl)), (1, .pf (∀ (e : Nat), e < x.l.n → x.l.v.t e = x.l.v.t e) (by intros; rfl)), (1, .pf (∀ (e : Nat), e < x.l.n → x.l.v.o e = x.l.v.o e) (by intros; rfl)), (1, .pf (∀ (e : Nat), e < x.l.n → x.l.v.l e = x.l.v.l e) (by intros; rfl)), (1, .le 0 0), (1, .pf (∀ (i : Nat), i < 0 → 0 ≤ 0) (by intros; exact Nat.le_refl _))] V.ok)))))))
    (V.need (φ (Re.mk (Int.negSucc 0) (Int.ofNat 0) (↑x.k : Int) (Mm.mk (fun (e : Nat) => x.m.g e) x.m.lk x.m.lc x.m.lo x.m.ln x.m.ct) (El.mk x.l.n (Evs.mk (fun (i : Nat) => x.l.v.k i) (fun (i : Nat) => x.l.v.w i) (fun (i : Nat) => x.l.v.t i) (fun (i : Nat) => x.l.v.o i) fun (i : Nat) => x.l.v.l i)), x.nc))
    (nN [(1, .pf (Int.negSucc 0 = Int.negSucc 0) rfl), (1, .eqI 0 0), (1, .pf ((↑x.k : Int) = (↑x.k : Int)) rfl), (1, .pf (x.l.n = x.l.n) rfl), (1, .pf (x.nc = x.nc) rfl), (1, .pf (x.m.lk = x.m.lk) rfl), (1, .pf (x.m.lc = x.m.lc) rfl), (1, .pf (x.m.lo = x.m.lo) rfl), (1, .pf (x.m.ln = x.m.ln) rfl), (1, .pf (x.m.ct = x.m.ct) rfl), (1, .eq 66 66), (1, .le 66 66), (1, .pf (∀ (e : Nat), e < 66 → x.m.g e = x.m.g e) (by intros; rfl)), (1, .pf (x.nc = x.nc) rfl), (1, .pf (x.l.n ≤ x.l.n) (Nat.le_refl _)), (1, .pf (∀ (e : Nat), e < x.l.n → x.l.v.k e = x.l.v.k e) (by intros; rfl)), (1, .pf (∀ (e : Nat), e < x.l.n → x.l.v.w e = x.l.v.w e) (by intros; rfl)), (1, .pf (∀ (e : Nat), e < x.l.n → x.l.v.t e = x.l.v.t e) (by intros; rfl)), (1, .pf (∀ (e : Nat), e < x.l.n → x.l.v.o e = x.l.v.o e) (by intros; rfl)), (1, .pf (∀ (e : Nat), e < x.l.n → x.l.v.l e = x.l.v.l e) (by intros; rfl))] V.ok)))
    (V.any Bool (fun (x : Bool) => True) fun (b : Bool) => V.br b
    (V.any XBc (fun (x : XBc) => I (2, x)) fun (x : XBc) => V.br (decide ((↑x.k : Int) < Int.ofNat 200))
    (nN [(19, .lt2 0 1 0 1), (1, .pf (x.t = x.t) rfl), (1, .eqI 8 8), (1, .eqI 26 26), (1, .eqI 5 5)]
    (V.need (okAt x.t (Int.ofNat 8) (Int.ofNat 26) (Int.ofNat 5))
    (nN [(1, .pf (∃ (x_1 : Int), x_1 = Int.ofNat 26 + x.t * Int.ofNat 5) ⟨_, rfl⟩)]
    (V.any Int (fun (r : Int) => r = Int.ofNat 26 + x.t * Int.ofNat 5) fun (x_1 : Int) => nN [(1, .pf (x_1 = x_1) rfl), (1, .pf (x.m.lk = x.m.lk) rfl), (1, .pf (x.m.lc = x.m.lc) rfl), (1, .pf (x.m.lo = x.m.lo) rfl), (1, .pf (x.m.ln = x.m.ln) rfl), (1, .pf (x.m.ct = x.m.ct) rfl), (1, .eq 66 66), (1, .le 66 66), (1, .pf (∀ (e : Nat), e < 66 → x.m.g e = x.m.g e) (by intros; rfl)), (1, .pf (∃ (x_2 : Mm), x_2 = (Mm.mk (fun (e : Nat) => x.m.g e) x.m.lk x.m.lc x.m.lo x.m.ln x.m.ct).acc 66 (Int.ofNat 1) x_1 ((Mm.mk (fun (e : Nat) => x.m.g e) x.m.lk x.m.lc x.m.lo x.m.ln x.m.ct).val 66 x_1)) ⟨_, rfl⟩)]
    (V.any Mm (fun (m' : Mm) => m' = (Mm.mk (fun (e : Nat) => x.m.g e) x.m.lk x.m.lc x.m.lo x.m.ln x.m.ct).acc 66 (Int.ofNat 1) x_1 ((Mm.mk (fun (e : Nat) => x.m.g e) x.m.lk x.m.lc x.m.lo x.m.ln x.m.ct).val 66 x_1)) fun (x_2 : Mm) => nN [(1, .pf (∃ (x_3 : Int), x_3 = (Mm.mk (fun (e : Nat) => x.m.g e) x.m.lk x.m.lc x.m.lo x.m.ln x.m.ct).val 66 x_1) ⟨_, rfl⟩)]
    (V.any Int (fun (v : Int) => v = (Mm.mk (fun (e : Nat) => x.m.g e) x.m.lk x.m.lc x.m.lo x.m.ln x.m.ct).val 66 x_1) fun (x_3 : Int) => V.br (x_3 == Int.ofNat 1)
    (nN [(13, .lt2 0 1 0 1)]
    (V.need (I (3, XBc.mk x.t (Int.ofNat 0) (Int.ofNat 0) (Int.ofNat 0) (Int.ofNat 0) (Int.ofNat 0) (Int.ofNat 0) (Int.ofNat 0) (Int.ofNat 0) (IntKind.i64.wrap ((↑x.k : Int) + Int.ofNat 1)).toNat (Mm.mk (fun (e : Nat) => x_2.g e) x_2.lk x_2.lc x_2.lo x_2.ln x_2.ct) (El.mk x.l.n (Evs.mk (fun (i : Nat) => x.l.v.k i) (fun (i : Nat) => x.l.v.w i) (fun (i : Nat) => x.l.v.t i) (fun (i : Nat) => x.l.v.o i) fun (i : Nat) => x.l.v.l i)) x.nc))
    (V.need (200 - (IntKind.i64.wrap ((↑x.k : Int) + Int.ofNat 1)).toNat < 200 - x.k)
    (V.need (IntKind.i64.wrap ((↑x.k : Int) + Int.ofNat 1) = (↑(IntKind.i64.wrap ((↑x.k : Int) + Int.ofNat 1)).toNat : Int))
    (nN [(1, .pf (x.t = x.t) rfl), (1, .pf (lv = lv) rfl), (1, .pf (x_2.lk = x_2.lk) rfl), (1, .pf (x_2.lc = x_2.lc) rfl), (1, .pf (x_2.lo = x_2.lo) rfl), (1, .pf (x_2.ln = x_2.ln) rfl), (1, .pf (x_2.ct = x_2.ct) rfl), (1, .eq 66 66), (1, .le 66 66), (1, .pf (∀ (e : Nat), e < 66 → x_2.g e = x_2.g e) (by intros; rfl)), (1, .pf (x.l.n = x.l.n) rfl), (2, .pf (x.nc = x.nc) rfl), (1, .pf (x.l.n ≤ x.l.n) (Nat.le_refl _)), (1, .pf (∀ (e : Nat), e < x.l.n → x.l.v.k e = x.l.v.k e) (by intros; rfl)), (1, .pf (∀ (e : Nat), e < x.l.n → x.l.v.w e = x.l.v.w e) (by intros; rfl)), (1, .pf (∀ (e : Nat), e < x.l.n → x.l.v.t e = x.l.v.t e) (by intros; rfl)), (1, .pf (∀ (e : Nat), e < x.l.n → x.l.v.o e = x.l.v.o e) (by intros; rfl)), (1, .pf (∀ (e : Nat), e < x.l.n → x.l.v.l e = x.l.v.l e) (by intros; rfl)), (1, .pf (lv = lv) rfl), (1, .pf (x.t = x.t) rfl), (1, .le 0 0), (1, .pf (∀ (i : Nat), i < 0 → 0 ≤ 0) (by intros; exact Nat.le_refl _))] V.ok)))))
    (V.need (I (6, XBc.mk x.t (Int.ofNat 0) (Int.ofNat 0) (Int.ofNat 0) (Int.ofNat 0) (Int.ofNat 0) (Int.ofNat 0) (Int.ofNat 0) (Int.ofNat 0) (IntKind.i64.wrap ((↑x.k : Int) + Int.ofNat 1)).toNat (Mm.mk (fun (e : Nat) => x_2.g e) x_2.lk x_2.lc x_2.lo x_2.ln x_2.ct) (El.mk x.l.n (Evs.mk (fun (i : Nat) => x.l.v.k i) (fun (i : Nat) => x.l.v.w i) (fun (i : Nat) => x.l.v.t i) (fun (i : Nat) => x.l.v.o i) fun (i : Nat) => x.l.v.l i)) x.nc))
    (V.need (200 - (IntKind.i64.wrap ((↑x.k : Int) + Int.ofNat 1)).toNat < 200 - x.k)
    (V.need (IntKind.i64.wrap ((↑x.k : Int) + Int.ofNat 1) = (↑(IntKind.i64.wrap ((↑x.k : Int) + Int.ofNat 1)).toNat : Int))
    (nN [(1, .pf (x.t = x.t) rfl), (1, .pf (lv = lv) rfl), (1, .pf (x_2.lk = x_2.lk) rfl), (1, .pf (x_2.lc = x_2.lc) rfl), (1, .pf (x_2.lo = x_2.lo) rfl), (1, .pf (x_2.ln = x_2.ln) rfl), (1, .pf (x_2.ct = x_2.ct) rfl), (1, .eq 66 66), (1, .le 66 66), (1, .pf (∀ (e : Nat), e < 66 → x_2.g e = x_2.g e) (by intros; rfl)), (1, .pf (x.l.n = x.l.n) rfl), (2, .pf (x.nc = x.nc) rfl), (1, .pf (x.l.n ≤ x.l.n) (Nat.le_refl _)), (1, .pf (∀ (e : Nat), e < x.l.n → x.l.v.k e = x.l.v.k e) (by intros; rfl)), (1, .pf (∀ (e : Nat), e < x.l.n → x.l.v.w e = x.l.v.w e) (by intros; rfl)), (1, .pf (∀ (e : Nat), e < x.l.n → x.l.v.t e = x.l.v.t e) (by intros; rfl)), (1, .pf (∀ (e : Nat), e < x.l.n → x.l.v.o e = x.l.v.o e) (by intros; rfl)), (1, .pf (∀ (e : Nat), e < x.l.n → x.l.v.l e = x.l.v.l e) (by intros; rfl)), (1, .le 0 0), (1, .pf (∀ (i : Nat), i < 0 → 0 ≤ 0) (by intros; exact Nat.le_refl _)), (1, .le 0 0), (1, .pf (∀ (i : Nat), i < 0 → 0 ≤ 0) (by intros; exact Nat.le_refl _))] V.ok))))))))))
    (V.need (φ (Re.mk (Int.negSucc 0) (Int.ofNat 0) (↑x.k : Int) (Mm.mk (fun (e : Nat) => x.m.g e) x.m.lk x.m.lc x.m.lo x.m.ln x.m.ct) (El.mk x.l.n (Evs.mk (fun (i : Nat) => x.l.v.k i) (fun (i : Nat) => x.l.v.w i) (fun (i : Nat) => x.l.v.t i) (fun (i : Nat) => x.l.v.o i) fun (i : Nat) => x.l.v.l i)), x.nc))
    (nN [(1, .pf (Int.negSucc 0 = Int.negSucc 0) rfl), (1, .eqI 0 0), (1, .pf ((↑x.k : Int) = (↑x.k : Int)) rfl), (1, .pf (x.l.n = x.l.n) rfl), (1, .pf (x.nc = x.nc) rfl), (1, .pf (x.m.lk = x.m.lk) rfl), (1, .pf (x.m.lc = x.m.lc) rfl), (1, .pf (x.m.lo = x.m.lo) rfl), (1, .pf (x.m.ln = x.m.ln) rfl), (1, .pf (x.m.ct = x.m.ct) rfl), (1, .eq 66 66), (1, .le 66 66), (1, .pf (∀ (e : Nat), e < 66 → x.m.g e = x.m.g e) (by intros; rfl)), (1, .pf (x.nc = x.nc) rfl), (1, .pf (x.l.n ≤ x.l.n) (Nat.le_refl _)), (1, .pf (∀ (e : Nat), e < x.l.n → x.l.v.k e = x.l.v.k e) (by intros; rfl)), (1, .pf (∀ (e : Nat), e < x.l.n → x.l.v.w e = x.l.v.w e) (by intros; rfl)), (1, .pf (∀ (e : Nat), e < x.l.n → x.l.v.t e = x.l.v.t e) (by intros; rfl)), (1, .pf (∀ (e : Nat), e < x.l.n → x.l.v.o e = x.l.v.o e) (by intros; rfl)), (1, .pf (∀ (e : Nat), e < x.l.n → x.l.v.l e = x.l.v.l e) (by intros; rfl))] V.ok)))
    (V.any Bool (fun (x : Bool) => True) fun (b : Bool) => V.br b
    (V.any XBc (fun (x : XBc) => I (3, x)) fun (x : XBc) => V.br (decide ((↑x.k : Int) < Int.ofNat 200))
    (nN [(19, .lt2 0 1 0 1), (1, .eqI 1 1), (1, .eqI 3 3), (1, .eqI 1 1), (1, .eqI 8 8), (1, .eqI 4 4), (1, .eqI 1 1), (1, .eqI 5 5), (1, .eqI 6 6), (1, .eqI 7 7), (1, .eqI 8 8), (1, .eqI 26 26), (1, .eqI 0 0), (1, .pf (lv = lv) rfl)]
    (V.need (okQ (Ly.mk (Int.ofNat 1) (Int.ofNat 3) (Int.ofNat 1) (Int.ofNat 8) (Int.ofNat 4) (Int.ofNat 1) (Int.ofNat 5) (Int.ofNat 6) (Int.ofNat 7) (Int.ofNat 8) (Int.ofNat 26)) (Int.ofNat 0) lv)
    (nN [(1, .pf (∃ (x : Int), x = Int.ofNat 8 + Int.ofNat 0 * (Int.ofNat 3 * (Int.ofNat 2 + Int.ofNat 4)) + lv * (Int.ofNat 2 + Int.ofNat 4)) ⟨_, rfl⟩)]
    (V.any Int (fun (T : Int) => T = Int.ofNat 8 + Int.ofNat 0 * (Int.ofNat 3 * (Int.ofNat 2 + Int.ofNat 4)) + lv * (Int.ofNat 2 + Int.ofNat 4)) fun (x_1 : Int) => nN [(12, .lt2 0 1 0 1), (1, .pf (x_1 + Int.ofNat 1 = x_1 + Int.ofNat 1) rfl), (1, .pf (x.m.lk = x.m.lk) rfl), (1, .pf (x.m.lc = x.m.lc) rfl), (1, .pf (x.m.lo = x.m.lo) rfl), (1, .pf (x.m.ln = x.m.ln) rfl), (1, .pf (x.m.ct = x.m.ct) rfl), (1, .eq 66 66), (1, .le 66 66), (1, .pf (∀ (e : Nat), e < 66 → x.m.g e = x.m.g e) (by intros; rfl)), (1, .pf (∃ (x_2 : Mm), x_2 = (Mm.mk (fun (e : Nat) => x.m.g e) x.m.lk x.m.lc x.m.lo x.m.ln x.m.ct).acc 66 (Int.ofNat 1) (x_1 + Int.ofNat 1) ((Mm.mk (fun (e : Nat) => x.m.g e) x.m.lk x.m.lc x.m.lo x.m.ln x.m.ct).val 66 (x_1 + Int.ofNat 1))) ⟨_, rfl⟩)]
    (V.any Mm (fun (m' : Mm) => m' = (Mm.mk (fun (e : Nat) => x.m.g e) x.m.lk x.m.lc x.m.lo x.m.ln x.m.ct).acc 66 (Int.ofNat 1) (x_1 + Int.ofNat 1) ((Mm.mk (fun (e : Nat) => x.m.g e) x.m.lk x.m.lc x.m.lo x.m.ln x.m.ct).val 66 (x_1 + Int.ofNat 1))) fun (x_2 : Mm) => nN [(1, .pf (∃ (x_3 : Int), x_3 = (Mm.mk (fun (e : Nat) => x.m.g e) x.m.lk x.m.lc x.m.lo x.m.ln x.m.ct).val 66 (x_1 + Int.ofNat 1)) ⟨_, rfl⟩)]
    (V.any Int (fun (v : Int) => v = (Mm.mk (fun (e : Nat) => x.m.g e) x.m.lk x.m.lc x.m.lo x.m.ln x.m.ct).val 66 (x_1 + Int.ofNat 1)) fun (x_3 : Int) => nN [(2, .lt2 0 1 0 1)]
    (V.need (I (4, XBc.mk x.t (Int.ofNat 0) (Int.ofNat 0) x_1 (x_1 + Int.ofNat 1) (x_1 + Int.ofNat 2) (Int.ofNat 4) (Int.ofNat 2) x_3 (IntKind.i64.wrap ((↑x.k : Int) + Int.ofNat 1)).toNat (Mm.mk (fun (e : Nat) => x_2.g e) x_2.lk x_2.lc x_2.lo x_2.ln x_2.ct) (El.mk x.l.n (Evs.mk (fun (i : Nat) => x.l.v.k i) (fun (i : Nat) => x.l.v.w i) (fun (i : Nat) => x.l.v.t i) (fun (i : Nat) => x.l.v.o i) fun (i : Nat) => x.l.v.l i)) x.nc))
    (V.need (200 - (IntKind.i64.wrap ((↑x.k : Int) + Int.ofNat 1)).toNat < 200 - x.k)
    (V.need (IntKind.i64.wrap ((↑x.k : Int) + Int.ofNat 1) = (↑(IntKind.i64.wrap ((↑x.k : Int) + Int.ofNat 1)).toNat : Int))
    (nN [(1, .pf (x.t = x.t) rfl), (1, .pf (lv = lv) rfl), (1, .pf (x_2.lk = x_2.lk) rfl), (1, .pf (x_2.lc = x_2.lc) rfl), (1, .pf (x_2.lo = x_2.lo) rfl), (1, .pf (x_2.ln = x_2.ln) rfl), (1, .pf (x_2.ct = x_2.ct) rfl), (1, .eq 66 66), (1, .le 66 66), (1, .pf (∀ (e : Nat), e < 66 → x_2.g e = x_2.g e) (by intros; rfl)), (1, .pf (x.l.n = x.l.n) rfl), (2, .pf (x.nc = x.nc) rfl), (1, .pf (x.l.n ≤ x.l.n) (Nat.le_refl _)), (1, .pf (∀ (e : Nat), e < x.l.n → x.l.v.k e = x.l.v.k e) (by intros; rfl)), (1, .pf (∀ (e : Nat), e < x.l.n → x.l.v.w e = x.l.v.w e) (by intros; rfl)), (1, .pf (∀ (e : Nat), e < x.l.n → x.l.v.t e = x.l.v.t e) (by intros; rfl)), (1, .pf (∀ (e : Nat), e < x.l.n → x.l.v.o e = x.l.v.o e) (by intros; rfl)), (1, .pf (∀ (e : Nat), e < x.l.n → x.l.v.l e = x.l.v.l e) (by intros; rfl)), (1, .pf (lv = lv) rfl), (1, .pf (x.t = x.t) rfl), (1, .pf (x_1 = x_1) rfl), (1, .pf (x_1 + Int.ofNat 1 = x_1 + Int.ofNat 1) rfl), (1, .pf (x_1 + Int.ofNat 2 = x_1 + Int.ofNat 2) rfl), (1, .eqI 4 4), (1, .pf (x.t = x.t) rfl), (1, .eqI 2 2), (1, .pf (x_3 = x_3) rfl)] V.ok))))))))))
    (V.need (φ (Re.mk (Int.negSucc 0) (Int.ofNat 0) (↑x.k : Int) (Mm.mk (fun (e : Nat) => x.m.g e) x.m.lk x.m.lc x.m.lo x.m.ln x.m.ct) (El.mk x.l.n (Evs.mk (fun (i : Nat) => x.l.v.k i) (fun (i : Nat) => x.l.v.w i) (fun (i : Nat) => x.l.v.t i) (fun (i : Nat) => x.l.v.o i) fun (i : Nat) => x.l.v.l i)), x.nc))
    (nN [(1, .pf (Int.negSucc 0 = Int.negSucc 0) rfl), (1, .eqI 0 0), (1, .pf ((↑x.k : Int) = (↑x.k : Int)) rfl), (1, .pf (x.l.n = x.l.n) rfl), (1, .pf (x.nc = x.nc) rfl), (1, .pf (x.m.lk = x.m.lk) rfl), (1, .pf (x.m.lc = x.m.lc) rfl), (1, .pf (x.m.lo = x.m.lo) rfl), (1, .pf (x.m.ln = x.m.ln) rfl), (1, .pf (x.m.ct = x.m.ct) rfl), (1, .eq 66 66), (1, .le 66 66), (1, .pf (∀ (e : Nat), e < 66 → x.m.g e = x.m.g e) (by intros; rfl)), (1, .pf (x.nc = x.nc) rfl), (1, .pf (x.l.n ≤ x.l.n) (Nat.le_refl _)), (1, .pf (∀ (e : Nat), e < x.l.n → x.l.v.k e = x.l.v.k e) (by intros; rfl)), (1, .pf (∀ (e : Nat), e < x.l.n → x.l.v.w e = x.l.v.w e) (by intros; rfl)), (1, .pf (∀ (e : Nat), e < x.l.n → x.l.v.t e = x.l.v.t e) (by intros; rfl)), (1, .pf (∀ (e : Nat), e < x.l.n → x.l.v.o e = x.l.v.o e) (by intros; rfl)), (1, .pf (∀ (e : Nat), e < x.l.n → x.l.v.l e = x.l.v.l e) (by intros; rfl))] V.ok)))
    (V.any Bool (fun (x : Bool) => True) fun (b : Bool) => V.br b
    (V.any XBc (fun (x : XBc) => I (4, x)) fun (x : XBc) => V.br (decide ((↑x.k : Int) < Int.ofNat 200))
    (V.br (x.ln == Int.ofNat 1)
    (nN [(7, .lt2 0 1 0 1), (1, .pf (x.qb = x.qb) rfl), (1, .pf (x.m.lk = x.m.lk) rfl), (1, .pf (x.m.lc = x.m.lc) rfl), (1, .pf (x.m.lo = x.m.lo) rfl), (1, .pf (x.m.ln = x.m.ln) rfl), (1, .pf (x.m.ct = x.m.ct) rfl), (1, .eq 66 66), (1, .le 66 66), (1, .pf (∀ (e : Nat), e < 66 → x.m.g e = x.m.g e) (by intros; rfl)), (1, .pf (∃ (x_1 : Mm), x_1 = (Mm.mk (fun (e : Nat) => x.m.g e) x.m.lk x.m.lc x.m.lo x.m.ln x.m.ct).acc 66 (Int.ofNat 1) x.qb ((Mm.mk (fun (e : Nat) => x.m.g e) x.m.lk x.m.lc x.m.lo x.m.ln x.m.ct).val 66 x.qb)) ⟨_, rfl⟩)]
    (V.any Mm (fun (m' : Mm) => m' = (Mm.mk (fun (e : Nat) => x.m.g e) x.m.lk x.m.lc x.m.lo x.m.ln x.m.ct).acc 66 (Int.ofNat 1) x.qb ((Mm.mk (fun (e : Nat) => x.m.g e) x.m.lk x.m.lc x.m.lo x.m.ln x.m.ct).val 66 x.qb)) fun (x_1 : Mm) => nN [(1, .pf (∃ (x_2 : Int), x_2 = (Mm.mk (fun (e : Nat) => x.m.g e) x.m.lk x.m.lc x.m.lo x.m.ln x.m.ct).val 66 x.qb) ⟨_, rfl⟩)]
    (V.any Int (fun (v : Int) => v = (Mm.mk (fun (e : Nat) => x.m.g e) x.m.lk x.m.lc x.m.lo x.m.ln x.m.ct).val 66 x.qb) fun (x_2 : Int) => nN [(2, .lt2 0 1 0 1)]
    (V.need (I (4, XBc.mk x.t (Int.ofNat 0) (Int.ofNat 0) x.qt x.qb x.qr x.qc (IntKind.i64.wrap (x.ln + Int.ofNat 1)) x_2 (IntKind.i64.wrap ((↑x.k : Int) + Int.ofNat 1)).toNat (Mm.mk (fun (e : Nat) => x_1.g e) x_1.lk x_1.lc x_1.lo x_1.ln x_1.ct) (El.mk x.l.n (Evs.mk (fun (i : Nat) => x.l.v.k i) (fun (i : Nat) => x.l.v.w i) (fun (i : Nat) => x.l.v.t i) (fun (i : Nat) => x.l.v.o i) fun (i : Nat) => x.l.v.l i)) x.nc))
    (V.need (200 - (IntKind.i64.wrap ((↑x.k : Int) + Int.ofNat 1)).toNat < 200 - x.k)
    (V.need (IntKind.i64.wrap ((↑x.k : Int) + Int.ofNat 1) = (↑(IntKind.i64.wrap ((↑x.k : Int) + Int.ofNat 1)).toNat : Int))
    (nN [(1, .pf (x.t = x.t) rfl), (1, .pf (lv = lv) rfl), (1, .pf (x_1.lk = x_1.lk) rfl), (1, .pf (x_1.lc = x_1.lc) rfl), (1, .pf (x_1.lo = x_1.lo) rfl), (1, .pf (x_1.ln = x_1.ln) rfl), (1, .pf (x_1.ct = x_1.ct) rfl), (1, .eq 66 66), (1, .le 66 66), (1, .pf (∀ (e : Nat), e < 66 → x_1.g e = x_1.g e) (by intros; rfl)), (1, .pf (x.l.n = x.l.n) rfl), (2, .pf (x.nc = x.nc) rfl), (1, .pf (x.l.n ≤ x.l.n) (Nat.le_refl _)), (1, .pf (∀ (e : Nat), e < x.l.n → x.l.v.k e = x.l.v.k e) (by intros; rfl)), (1, .pf (∀ (e : Nat), e < x.l.n → x.l.v.w e = x.l.v.w e) (by intros; rfl)), (1, .pf (∀ (e : Nat), e < x.l.n → x.l.v.t e = x.l.v.t e) (by intros; rfl)), (1, .pf (∀ (e : Nat), e < x.l.n → x.l.v.o e = x.l.v.o e) (by intros; rfl)), (1, .pf (∀ (e : Nat), e < x.l.n → x.l.v.l e = x.l.v.l e) (by intros; rfl)), (1, .pf (lv = lv) rfl), (1, .pf (x.t = x.t) rfl), (1, .pf (x.qt = x.qt) rfl), (1, .pf (x.qb = x.qb) rfl), (1, .pf (x.qr = x.qr) rfl), (1, .pf (x.qc = x.qc) rfl), (1, .pf (x.t = x.t) rfl), (1, .pf (IntKind.i64.wrap (x.ln + Int.ofNat 1) = IntKind.i64.wrap (x.ln + Int.ofNat 1)) rfl), (1, .pf (x_2 = x_2) rfl)] V.ok)))))))
    (V.br (x.ln == Int.ofNat 2)
    (nN [(7, .lt2 0 1 0 1), (1, .pf (x.qt = x.qt) rfl), (1, .pf (x.m.lk = x.m.lk) rfl), (1, .pf (x.m.lc = x.m.lc) rfl), (1, .pf (x.m.lo = x.m.lo) rfl), (1, .pf (x.m.ln = x.m.ln) rfl), (1, .pf (x.m.ct = x.m.ct) rfl), (1, .eq 66 66), (1, .le 66 66), (1, .pf (∀ (e : Nat), e < 66 → x.m.g e = x.m.g e) (by intros; rfl)), (1, .pf (∃ (x_1 : Mm), x_1 = (Mm.mk (fun (e : Nat) => x.m.g e) x.m.lk x.m.lc x.m.lo x.m.ln x.m.ct).acc 66 (Int.ofNat 1) x.qt ((Mm.mk (fun (e : Nat) => x.m.g e) x.m.lk x.m.lc x.m.lo x.m.ln x.m.ct).val 66 x.qt)) ⟨_, rfl⟩)]
    (V.any Mm (fun (m' : Mm) => m' = (Mm.mk (fun (e : Nat) => x.m.g e) x.m.lk x.m.lc x.m.lo x.m.ln x.m.ct).acc 66 (Int.ofNat 1) x.qt ((Mm.mk (fun (e : Nat) => x.m.g e) x.m.lk x.m.lc x.m.lo x.m.ln x.m.ct).val 66 x.qt)) fun (x_1 : Mm) => nN [(1, .pf (∃ (x_2 : Int), x_2 = (Mm.mk (fun (e : Nat) => x.m.g e) x.m.lk x.m.lc x.m.lo x.m.ln x.m.ct).val 66 x.qt) ⟨_, rfl⟩)]
    (V.any Int (fun (v : Int) => v = (Mm.mk (fun (e : Nat) => x.m.g e) x.m.lk x.m.lc x.m.lo x.m.ln x.m.ct).val 66 x.qt) fun (x_2 : Int) => nN [(7, .lt2 0 1 0 1)]
    (V.br (decide (IntKind.i64.wrap (IntKind.u64.wrap (x.b - x_2)) ≥ x.qc))
    (nN [(34, .lt2 0 1 0 1)]
    (V.need (x.l.n ≤ x.l.n ∧ x.nc = x.nc)
    (V.need (x.l.n + 1 ≤ 9223372036854775807 ∧ (x.l.n + 1) * 40 ≤ 140737488355328)
    (V.any Nat (fun (x_3 : Nat) => x.l.n + 1 ≤ x_3) fun (x_3 : Nat) => nN [(2, .lt2 0 1 0 1)]
    (V.need (I (6, XBc.mk x.t (Int.ofNat 0) (Int.ofNat 0) (Int.ofNat 0) (Int.ofNat 0) (Int.ofNat 0) (Int.ofNat 0) (Int.ofNat 0) (Int.ofNat 0) (IntKind.i64.wrap ((↑x.k : Int) + Int.ofNat 1)).toNat (Mm.mk (fun (e : Nat) => x_1.g e) x_1.lk x_1.lc x_1.lo x_1.ln x_1.ct) (El.mk (x.l.n + 1) (Evs.mk (fun (i : Nat) => if 0 = 0 ∧ i = x.l.n then Int.ofNat 19 else x.l.v.k i) (fun (i : Nat) => if 0 = 0 ∧ i = x.l.n then Int.ofNat 0 else x.l.v.w i) (fun (i : Nat) => if 0 = 0 ∧ i = x.l.n then x.t else x.l.v.t i) (fun (i : Nat) => if 0 = 0 ∧ i = x.l.n then Int.ofNat 0 else x.l.v.o i) fun (i : Nat) => if 0 = 0 ∧ i = x.l.n then lv else x.l.v.l i)) x_3))
    (V.need (200 - (IntKind.i64.wrap ((↑x.k : Int) + Int.ofNat 1)).toNat < 200 - x.k)
    (V.need (IntKind.i64.wrap ((↑x.k : Int) + Int.ofNat 1) = (↑(IntKind.i64.wrap ((↑x.k : Int) + Int.ofNat 1)).toNat : Int))
    (nN [(1, .pf (x.t = x.t) rfl), (1, .pf (lv = lv) rfl), (1, .pf (x_1.lk = x_1.lk) rfl), (1, .pf (x_1.lc = x_1.lc) rfl), (1, .pf (x_1.lo = x_1.lo) rfl), (1, .pf (x_1.ln = x_1.ln) rfl), (1, .pf (x_1.ct = x_1.ct) rfl), (1, .eq 66 66), (1, .le 66 66), (1, .pf (∀ (e : Nat), e < 66 → x_1.g e = x_1.g e) (by intros; rfl)), (1, .pf (x.l.n + 1 = x.l.n + 1) rfl), (2, .pf (x_3 = x_3) rfl)]
    (V.need (x.l.n + 1 ≤ x.l.n + 1)
    (V.need (∀ (e : Nat), e < x.l.n + 1 → (if 0 = 0 ∧ e = x.l.n then Int.ofNat 19 else x.l.v.k e) = if 0 = 0 ∧ e = x.l.n then Int.ofNat 19 else x.l.v.k e)
    (V.need (∀ (e : Nat), e < x.l.n + 1 → (if 0 = 0 ∧ e = x.l.n then Int.ofNat 0 else x.l.v.w e) = if 0 = 0 ∧ e = x.l.n then Int.ofNat 0 else x.l.v.w e)
    (V.need (∀ (e : Nat), e < x.l.n + 1 → (if 0 = 0 ∧ e = x.l.n then x.t else x.l.v.t e) = if 0 = 0 ∧ e = x.l.n then x.t else x.l.v.t e)
    (V.need (∀ (e : Nat), e < x.l.n + 1 → (if 0 = 0 ∧ e = x.l.n then Int.ofNat 0 else x.l.v.o e) = if 0 = 0 ∧ e = x.l.n then Int.ofNat 0 else x.l.v.o e)
    (V.need (∀ (e : Nat), e < x.l.n + 1 → (if 0 = 0 ∧ e = x.l.n then lv else x.l.v.l e) = if 0 = 0 ∧ e = x.l.n then lv else x.l.v.l e) V.ok))))))))))))))
    (V.need (I (4, XBc.mk x.t (Int.ofNat 0) (Int.ofNat 0) x.qt x.qb x.qr x.qc (IntKind.i64.wrap (x.ln + Int.ofNat 1)) x.b (IntKind.i64.wrap ((↑x.k : Int) + Int.ofNat 1)).toNat (Mm.mk (fun (e : Nat) => x_1.g e) x_1.lk x_1.lc x_1.lo x_1.ln x_1.ct) (El.mk x.l.n (Evs.mk (fun (i : Nat) => x.l.v.k i) (fun (i : Nat) => x.l.v.w i) (fun (i : Nat) => x.l.v.t i) (fun (i : Nat) => x.l.v.o i) fun (i : Nat) => x.l.v.l i)) x.nc))
    (V.need (200 - (IntKind.i64.wrap ((↑x.k : Int) + Int.ofNat 1)).toNat < 200 - x.k)
    (V.need (IntKind.i64.wrap ((↑x.k : Int) + Int.ofNat 1) = (↑(IntKind.i64.wrap ((↑x.k : Int) + Int.ofNat 1)).toNat : Int))
    (nN [(1, .pf (x.t = x.t) rfl), (1, .pf (lv = lv) rfl), (1, .pf (x_1.lk = x_1.lk) rfl), (1, .pf (x_1.lc = x_1.lc) rfl), (1, .pf (x_1.lo = x_1.lo) rfl), (1, .pf (x_1.ln = x_1.ln) rfl), (1, .pf (x_1.ct = x_1.ct) rfl), (1, .eq 66 66), (1, .le 66 66), (1, .pf (∀ (e : Nat), e < 66 → x_1.g e = x_1.g e) (by intros; rfl)), (1, .pf (x.l.n = x.l.n) rfl), (2, .pf (x.nc = x.nc) rfl), (1, .pf (x.l.n ≤ x.l.n) (Nat.le_refl _)), (1, .pf (∀ (e : Nat), e < x.l.n → x.l.v.k e = x.l.v.k e) (by intros; rfl)), (1, .pf (∀ (e : Nat), e < x.l.n → x.l.v.w e = x.l.v.w e) (by intros; rfl)), (1, .pf (∀ (e : Nat), e < x.l.n → x.l.v.t e = x.l.v.t e) (by intros; rfl)), (1, .pf (∀ (e : Nat), e < x.l.n → x.l.v.o e = x.l.v.o e) (by intros; rfl)), (1, .pf (∀ (e : Nat), e < x.l.n → x.l.v.l e = x.l.v.l e) (by intros; rfl)), (1, .pf (lv = lv) rfl), (1, .pf (x.t = x.t) rfl), (1, .pf (x.qt = x.qt) rfl), (1, .pf (x.qb = x.qb) rfl), (1, .pf (x.qr = x.qr) rfl), (1, .pf (x.qc = x.qc) rfl), (1, .pf (x.t = x.t) rfl), (1, .pf (IntKind.i64.wrap (x.ln + Int.ofNat 1) = IntKind.i64.wrap (x.ln + Int.ofNat 1)) rfl), (1, .pf (x.b = x.b) rfl)] V.ok))))))))
    (V.br (x.ln == Int.ofNat 3)
    (nN [(12, .lt2 0 1 0 1)]
    (V.br (decide (x.qc < Int.ofNat 1))
    (nN [(3, .lt2 0 1 0 1), (1, .pf (Int.negSucc 0 = Int.negSucc 0) rfl), (1, .pf (IntKind.u64.wrap x.t = IntKind.u64.wrap x.t) rfl), (1, .pf (x.m.lk = x.m.lk) rfl), (1, .pf (x.m.lc = x.m.lc) rfl), (1, .pf (x.m.lo = x.m.lo) rfl), (1, .pf (x.m.ln = x.m.ln) rfl), (1, .pf (x.m.ct = x.m.ct) rfl), (1, .eq 66 66), (1, .le 66 66), (1, .pf (∀ (e : Nat), e < 66 → x.m.g e = x.m.g e) (by intros; rfl)), (1, .pf (∃ (x_1 : Mm), x_1 = (Mm.mk (fun (e : Nat) => x.m.g e) x.m.lk x.m.lc x.m.lo x.m.ln x.m.ct).acc 66 (Int.ofNat 2) (Int.negSucc 0) (IntKind.u64.wrap x.t)) ⟨_, rfl⟩)]
    (V.any Mm (fun (m' : Mm) => m' = (Mm.mk (fun (e : Nat) => x.m.g e) x.m.lk x.m.lc x.m.lo x.m.ln x.m.ct).acc 66 (Int.ofNat 2) (Int.negSucc 0) (IntKind.u64.wrap x.t)) fun (x_1 : Mm) => V.need (I (4, XBc.mk x.t (Int.ofNat 0) (Int.ofNat 0) x.qt x.qb x.qr x.qc (IntKind.i64.wrap (x.ln + Int.ofNat 1)) x.b (IntKind.i64.wrap ((↑x.k : Int) + Int.ofNat 1)).toNat (Mm.mk (fun (e : Nat) => x_1.g e) x_1.lk x_1.lc x_1.lo x_1.ln x_1.ct) (El.mk x.l.n (Evs.mk (fun (i : Nat) => x.l.v.k i) (fun (i : Nat) => x.l.v.w i) (fun (i : Nat) => x.l.v.t i) (fun (i : Nat) => x.l.v.o i) fun (i : Nat) => x.l.v.l i)) x.nc))
    (V.need (200 - (IntKind.i64.wrap ((↑x.k : Int) + Int.ofNat 1)).toNat < 200 - x.k)
    (V.need (IntKind.i64.wrap ((↑x.k : Int) + Int.ofNat 1) = (↑(IntKind.i64.wrap ((↑x.k : Int) + Int.ofNat 1)).toNat : Int))
    (nN [(1, .pf (x.t = x.t) rfl), (1, .pf (lv = lv) rfl), (1, .pf (x_1.lk = x_1.lk) rfl), (1, .pf (x_1.lc = x_1.lc) rfl), (1, .pf (x_1.lo = x_1.lo) rfl), (1, .pf (x_1.ln = x_1.ln) rfl), (1, .pf (x_1.ct = x_1.ct) rfl), (1, .eq 66 66), (1, .le 66 66), (1, .pf (∀ (e : Nat), e < 66 → x_1.g e = x_1.g e) (by intros; rfl)), (1, .pf (x.l.n = x.l.n) rfl), (2, .pf (x.nc = x.nc) rfl), (1, .pf (x.l.n ≤ x.l.n) (Nat.le_refl _)), (1, .pf (∀ (e : Nat), e < x.l.n → x.l.v.k e = x.l.v.k e) (by intros; rfl)), (1, .pf (∀ (e : Nat), e < x.l.n → x.l.v.w e = x.l.v.w e) (by intros; rfl)), (1, .pf (∀ (e : Nat), e < x.l.n → x.l.v.t e = x.l.v.t e) (by intros; rfl)), (1, .pf (∀ (e : Nat), e < x.l.n → x.l.v.o e = x.l.v.o e) (by intros; rfl)), (1, .pf (∀ (e : Nat), e < x.l.n → x.l.v.l e = x.l.v.l e) (by intros; rfl)), (1, .pf (lv = lv) rfl), (1, .pf (x.t = x.t) rfl), (1, .pf (x.qt = x.qt) rfl), (1, .pf (x.qb = x.qb) rfl), (1, .pf (x.qr = x.qr) rfl), (1, .pf (x.qc = x.qc) rfl), (1, .pf (x.t = x.t) rfl), (1, .pf (IntKind.i64.wrap (x.ln + Int.ofNat 1) = IntKind.i64.wrap (x.ln + Int.ofNat 1)) rfl), (1, .pf (x.b = x.b) rfl)] V.ok)))))
    (nN [(4, .lt2 0 1 0 1)]
    (V.need (IntKind.u64.wrap x.qc ≠ Int.ofNat 0)
    (nN [(3, .lt2 0 1 0 1), (1, .pf (IntKind.i64.wrap (x.qr + IntKind.i64.wrap (x.b.tmod (IntKind.u64.wrap x.qc))) = IntKind.i64.wrap (x.qr + IntKind.i64.wrap (x.b.tmod (IntKind.u64.wrap x.qc)))) rfl), (1, .pf (IntKind.u64.wrap x.t = IntKind.u64.wrap x.t) rfl), (1, .pf (x.m.lk = x.m.lk) rfl), (1, .pf (x.m.lc = x.m.lc) rfl), (1, .pf (x.m.lo = x.m.lo) rfl), (1, .pf (x.m.ln = x.m.ln) rfl), (1, .pf (x.m.ct = x.m.ct) rfl), (1, .eq 66 66), (1, .le 66 66), (1, .pf (∀ (e : Nat), e < 66 → x.m.g e = x.m.g e) (by intros; rfl)), (1, .pf (∃ (x_1 : Mm), x_1 = (Mm.mk (fun (e : Nat) => x.m.g e) x.m.lk x.m.lc x.m.lo x.m.ln x.m.ct).acc 66 (Int.ofNat 2) (IntKind.i64.wrap (x.qr + IntKind.i64.wrap (x.b.tmod (IntKind.u64.wrap x.qc)))) (IntKind.u64.wrap x.t)) ⟨_, rfl⟩)]
    (V.any Mm (fun (m' : Mm) => m' = (Mm.mk (fun (e : Nat) => x.m.g e) x.m.lk x.m.lc x.m.lo x.m.ln x.m.ct).acc 66 (Int.ofNat 2) (IntKind.i64.wrap (x.qr + IntKind.i64.wrap (x.b.tmod (IntKind.u64.wrap x.qc)))) (IntKind.u64.wrap x.t)) fun (x_1 : Mm) => V.need (I (4, XBc.mk x.t (Int.ofNat 0) (Int.ofNat 0) x.qt x.qb x.qr x.qc (IntKind.i64.wrap (x.ln + Int.ofNat 1)) x.b (IntKind.i64.wrap ((↑x.k : Int) + Int.ofNat 1)).toNat (Mm.mk (fun (e : Nat) => x_1.g e) x_1.lk x_1.lc x_1.lo x_1.ln x_1.ct) (El.mk x.l.n (Evs.mk (fun (i : Nat) => x.l.v.k i) (fun (i : Nat) => x.l.v.w i) (fun (i : Nat) => x.l.v.t i) (fun (i : Nat) => x.l.v.o i) fun (i : Nat) => x.l.v.l i)) x.nc))
    (V.need (200 - (IntKind.i64.wrap ((↑x.k : Int) + Int.ofNat 1)).toNat < 200 - x.k)
    (V.need (IntKind.i64.wrap ((↑x.k : Int) + Int.ofNat 1) = (↑(IntKind.i64.wrap ((↑x.k : Int) + Int.ofNat 1)).toNat : Int))
    (nN [(1, .pf (x.t = x.t) rfl), (1, .pf (lv = lv) rfl), (1, .pf (x_1.lk = x_1.lk) rfl), (1, .pf (x_1.lc = x_1.lc) rfl), (1, .pf (x_1.lo = x_1.lo) rfl), (1, .pf (x_1.ln = x_1.ln) rfl), (1, .pf (x_1.ct = x_1.ct) rfl), (1, .eq 66 66), (1, .le 66 66), (1, .pf (∀ (e : Nat), e < 66 → x_1.g e = x_1.g e) (by intros; rfl)), (1, .pf (x.l.n = x.l.n) rfl), (2, .pf (x.nc = x.nc) rfl), (1, .pf (x.l.n ≤ x.l.n) (Nat.le_refl _)), (1, .pf (∀ (e : Nat), e < x.l.n → x.l.v.k e = x.l.v.k e) (by intros; rfl)), (1, .pf (∀ (e : Nat), e < x.l.n → x.l.v.w e = x.l.v.w e) (by intros; rfl)), (1, .pf (∀ (e : Nat), e < x.l.n → x.l.v.t e = x.l.v.t e) (by intros; rfl)), (1, .pf (∀ (e : Nat), e < x.l.n → x.l.v.o e = x.l.v.o e) (by intros; rfl)), (1, .pf (∀ (e : Nat), e < x.l.n → x.l.v.l e = x.l.v.l e) (by intros; rfl)), (1, .pf (lv = lv) rfl), (1, .pf (x.t = x.t) rfl), (1, .pf (x.qt = x.qt) rfl), (1, .pf (x.qb = x.qb) rfl), (1, .pf (x.qr = x.qr) rfl), (1, .pf (x.qc = x.qc) rfl), (1, .pf (x.t = x.t) rfl), (1, .pf (IntKind.i64.wrap (x.ln + Int.ofNat 1) = IntKind.i64.wrap (x.ln + Int.ofNat 1)) rfl), (1, .pf (x.b = x.b) rfl)] V.ok)))))))))
    (nN [(10, .lt2 0 1 0 1), (1, .pf (x.qb = x.qb) rfl), (1, .pf (IntKind.u64.wrap (x.b + Int.ofNat 1) = IntKind.u64.wrap (x.b + Int.ofNat 1)) rfl), (1, .pf (x.m.lk = x.m.lk) rfl), (1, .pf (x.m.lc = x.m.lc) rfl), (1, .pf (x.m.lo = x.m.lo) rfl), (1, .pf (x.m.ln = x.m.ln) rfl), (1, .pf (x.m.ct = x.m.ct) rfl), (1, .eq 66 66), (1, .le 66 66), (1, .pf (∀ (e : Nat), e < 66 → x.m.g e = x.m.g e) (by intros; rfl)), (1, .pf (∃ (x_1 : Mm), x_1 = (Mm.mk (fun (e : Nat) => x.m.g e) x.m.lk x.m.lc x.m.lo x.m.ln x.m.ct).acc 66 (Int.ofNat 2) x.qb (IntKind.u64.wrap (x.b + Int.ofNat 1))) ⟨_, rfl⟩)]
    (V.any Mm (fun (m' : Mm) => m' = (Mm.mk (fun (e : Nat) => x.m.g e) x.m.lk x.m.lc x.m.lo x.m.ln x.m.ct).acc 66 (Int.ofNat 2) x.qb (IntKind.u64.wrap (x.b + Int.ofNat 1))) fun (x_1 : Mm) => nN [(29, .lt2 0 1 0 1)]
    (V.need (I (5, XBc.mk x.t (Int.ofNat 0) (Int.ofNat 0) (Int.ofNat 0) (Int.ofNat 0) (Int.ofNat 0) (Int.ofNat 0) (Int.ofNat 0) (Int.ofNat 0) (IntKind.i64.wrap ((↑x.k : Int) + Int.ofNat 1)).toNat (Mm.mk (fun (e : Nat) => x_1.g e) x_1.lk x_1.lc x_1.lo x_1.ln x_1.ct) (El.mk x.l.n (Evs.mk (fun (i : Nat) => x.l.v.k i) (fun (i : Nat) => x.l.v.w i) (fun (i : Nat) => x.l.v.t i) (fun (i : Nat) => x.l.v.o i) fun (i : Nat) => x.l.v.l i)) x.nc))
    (V.need (200 - (IntKind.i64.wrap ((↑x.k : Int) + Int.ofNat 1)).toNat < 200 - x.k)
    (V.need (IntKind.i64.wrap ((↑x.k : Int) + Int.ofNat 1) = (↑(IntKind.i64.wrap ((↑x.k : Int) + Int.ofNat 1)).toNat : Int))
    (nN [(1, .pf (x.t = x.t) rfl), (1, .pf (lv = lv) rfl), (1, .pf (x_1.lk = x_1.lk) rfl), (1, .pf (x_1.lc = x_1.lc) rfl), (1, .pf (x_1.lo = x_1.lo) rfl), (1, .pf (x_1.ln = x_1.ln) rfl), (1, .pf (x_1.ct = x_1.ct) rfl), (1, .eq 66 66), (1, .le 66 66), (1, .pf (∀ (e : Nat), e < 66 → x_1.g e = x_1.g e) (by intros; rfl)), (1, .pf (x.l.n = x.l.n) rfl), (2, .pf (x.nc = x.nc) rfl), (1, .pf (x.l.n ≤ x.l.n) (Nat.le_refl _)), (1, .pf (∀ (e : Nat), e < x.l.n → x.l.v.k e = x.l.v.k e) (by intros; rfl)), (1, .pf (∀ (e : Nat), e < x.l.n → x.l.v.w e = x.l.v.w e) (by intros; rfl)), (1, .pf (∀ (e : Nat), e < x.l.n → x.l.v.t e = x.l.v.t e) (by intros; rfl)), (1, .pf (∀ (e : Nat), e < x.l.n → x.l.v.o e = x.l.v.o e) (by intros; rfl)), (1, .pf (∀ (e : Nat), e < x.l.n → x.l.v.l e = x.l.v.l e) (by intros; rfl)), (1, .pf (lv = lv) rfl), (1, .pf (x.t = x.t) rfl), (1, .eqI 7 7), (1, .pf (lv = lv) rfl)] V.ok)))))))))
    (V.need (φ (Re.mk (Int.negSucc 0) (Int.ofNat 0) (↑x.k : Int) (Mm.mk (fun (e : Nat) => x.m.g e) x.m.lk x.m.lc x.m.lo x.m.ln x.m.ct) (El.mk x.l.n (Evs.mk (fun (i : Nat) => x.l.v.k i) (fun (i : Nat) => x.l.v.w i) (fun (i : Nat) => x.l.v.t i) (fun (i : Nat) => x.l.v.o i) fun (i : Nat) => x.l.v.l i)), x.nc))
    (nN [(1, .pf (Int.negSucc 0 = Int.negSucc 0) rfl), (1, .eqI 0 0), (1, .pf ((↑x.k : Int) = (↑x.k : Int)) rfl), (1, .pf (x.l.n = x.l.n) rfl), (1, .pf (x.nc = x.nc) rfl), (1, .pf (x.m.lk = x.m.lk) rfl), (1, .pf (x.m.lc = x.m.lc) rfl), (1, .pf (x.m.lo = x.m.lo) rfl), (1, .pf (x.m.ln = x.m.ln) rfl), (1, .pf (x.m.ct = x.m.ct) rfl), (1, .eq 66 66), (1, .le 66 66), (1, .pf (∀ (e : Nat), e < 66 → x.m.g e = x.m.g e) (by intros; rfl)), (1, .pf (x.nc = x.nc) rfl), (1, .pf (x.l.n ≤ x.l.n) (Nat.le_refl _)), (1, .pf (∀ (e : Nat), e < x.l.n → x.l.v.k e = x.l.v.k e) (by intros; rfl)), (1, .pf (∀ (e : Nat), e < x.l.n → x.l.v.w e = x.l.v.w e) (by intros; rfl)), (1, .pf (∀ (e : Nat), e < x.l.n → x.l.v.t e = x.l.v.t e) (by intros; rfl)), (1, .pf (∀ (e : Nat), e < x.l.n → x.l.v.o e = x.l.v.o e) (by intros; rfl)), (1, .pf (∀ (e : Nat), e < x.l.n → x.l.v.l e = x.l.v.l e) (by intros; rfl))] V.ok)))
    (V.any Bool (fun (x : Bool) => True) fun (b : Bool) => V.br b
    (V.any XBc (fun (x : XBc) => I (5, x)) fun (x : XBc) => V.br (decide ((↑x.k : Int) < Int.ofNat 200))
    (nN [(9, .lt2 0 1 0 1)]
    (V.br (decide (lv < Int.ofNat 0))
    (nN [(1, .eqI 7 7), (1, .eqI 0 0), (1, .pf (x.m.lk = x.m.lk) rfl), (1, .pf (x.m.lc = x.m.lc) rfl), (1, .pf (x.m.lo = x.m.lo) rfl), (1, .pf (x.m.ln = x.m.ln) rfl), (1, .pf (x.m.ct = x.m.ct) rfl), (1, .eq 66 66), (1, .le 66 66), (1, .pf (∀ (e : Nat), e < 66 → x.m.g e = x.m.g e) (by intros; rfl)), (1, .pf (∃ (x_1 : Mm), x_1 = (Mm.mk (fun (e : Nat) => x.m.g e) x.m.lk x.m.lc x.m.lo x.m.ln x.m.ct).acc 66 (Int.ofNat 4) (Int.ofNat 7) (bits BinOp.or IntKind.u64 ((Mm.mk (fun (e : Nat) => x.m.g e) x.m.lk x.m.lc x.m.lo x.m.ln x.m.ct).val 66 (Int.ofNat 7)) (Int.ofNat 0))) ⟨_, rfl⟩)]
    (V.any Mm (fun (m' : Mm) => m' = (Mm.mk (fun (e : Nat) => x.m.g e) x.m.lk x.m.lc x.m.lo x.m.ln x.m.ct).acc 66 (Int.ofNat 4) (Int.ofNat 7) (bits BinOp.or IntKind.u64 ((Mm.mk (fun (e : Nat) => x.m.g e) x.m.lk x.m.lc x.m.lo x.m.ln x.m.ct).val 66 (Int.ofNat 7)) (Int.ofNat 0))) fun (x_1 : Mm) => nN [(1, .pf (∃ (x_2 : Int), x_2 = (Mm.mk (fun (e : Nat) => x.m.g e) x.m.lk x.m.lc x.m.lo x.m.ln x.m.ct).val 66 (Int.ofNat 7)) ⟨_, rfl⟩)]
    (V.any Int (fun (v : Int) => v = (Mm.mk (fun (e : Nat) => x.m.g e) x.m.lk x.m.lc x.m.lo x.m.ln x.m.ct).val 66 (Int.ofNat 7)) fun (x_2 : Int) => nN [(12, .lt2 0 1 0 1)]
    (V.need (I (6, XBc.mk x.t (Int.ofNat 0) (Int.ofNat 0) (Int.ofNat 0) (Int.ofNat 0) (Int.ofNat 0) (Int.ofNat 0) (Int.ofNat 0) (Int.ofNat 0) (IntKind.i64.wrap ((↑x.k : Int) + Int.ofNat 1)).toNat (Mm.mk (fun (e : Nat) => x_1.g e) x_1.lk x_1.lc x_1.lo x_1.ln x_1.ct) (El.mk x.l.n (Evs.mk (fun (i : Nat) => x.l.v.k i) (fun (i : Nat) => x.l.v.w i) (fun (i : Nat) => x.l.v.t i) (fun (i : Nat) => x.l.v.o i) fun (i : Nat) => x.l.v.l i)) x.nc))
    (V.need (200 - (IntKind.i64.wrap ((↑x.k : Int) + Int.ofNat 1)).toNat < 200 - x.k)
    (V.need (IntKind.i64.wrap ((↑x.k : Int) + Int.ofNat 1) = (↑(IntKind.i64.wrap ((↑x.k : Int) + Int.ofNat 1)).toNat : Int))
    (nN [(1, .pf (x.t = x.t) rfl), (1, .pf (lv = lv) rfl), (1, .pf (x_1.lk = x_1.lk) rfl), (1, .pf (x_1.lc = x_1.lc) rfl), (1, .pf (x_1.lo = x_1.lo) rfl), (1, .pf (x_1.ln = x_1.ln) rfl), (1, .pf (x_1.ct = x_1.ct) rfl), (1, .eq 66 66), (1, .le 66 66), (1, .pf (∀ (e : Nat), e < 66 → x_1.g e = x_1.g e) (by intros; rfl)), (1, .pf (x.l.n = x.l.n) rfl), (2, .pf (x.nc = x.nc) rfl), (1, .pf (x.l.n ≤ x.l.n) (Nat.le_refl _)), (1, .pf (∀ (e : Nat), e < x.l.n → x.l.v.k e = x.l.v.k e) (by intros; rfl)), (1, .pf (∀ (e : Nat), e < x.l.n → x.l.v.w e = x.l.v.w e) (by intros; rfl)), (1, .pf (∀ (e : Nat), e < x.l.n → x.l.v.t e = x.l.v.t e) (by intros; rfl)), (1, .pf (∀ (e : Nat), e < x.l.n → x.l.v.o e = x.l.v.o e) (by intros; rfl)), (1, .pf (∀ (e : Nat), e < x.l.n → x.l.v.l e = x.l.v.l e) (by intros; rfl))] V.ok)))))))
    (V.br (decide (lv > Int.ofNat 63))
    (nN [(1, .eqI 7 7), (1, .eqI 0 0), (1, .pf (x.m.lk = x.m.lk) rfl), (1, .pf (x.m.lc = x.m.lc) rfl), (1, .pf (x.m.lo = x.m.lo) rfl), (1, .pf (x.m.ln = x.m.ln) rfl), (1, .pf (x.m.ct = x.m.ct) rfl), (1, .eq 66 66), (1, .le 66 66), (1, .pf (∀ (e : Nat), e < 66 → x.m.g e = x.m.g e) (by intros; rfl)), (1, .pf (∃ (x_1 : Mm), x_1 = (Mm.mk (fun (e : Nat) => x.m.g e) x.m.lk x.m.lc x.m.lo x.m.ln x.m.ct).acc 66 (Int.ofNat 4) (Int.ofNat 7) (bits BinOp.or IntKind.u64 ((Mm.mk (fun (e : Nat) => x.m.g e) x.m.lk x.m.lc x.m.lo x.m.ln x.m.ct).val 66 (Int.ofNat 7)) (Int.ofNat 0))) ⟨_, rfl⟩)]
    (V.any Mm (fun (m' : Mm) => m' = (Mm.mk (fun (e : Nat) => x.m.g e) x.m.lk x.m.lc x.m.lo x.m.ln x.m.ct).acc 66 (Int.ofNat 4) (Int.ofNat 7) (bits BinOp.or IntKind.u64 ((Mm.mk (fun (e : Nat) => x.m.g e) x.m.lk x.m.lc x.m.lo x.m.ln x.m.ct).val 66 (Int.ofNat 7)) (Int.ofNat 0))) fun (x_1 : Mm) => nN [(1, .pf (∃ (x_2 : Int), x_2 = (Mm.mk (fun (e : Nat) => x.m.g e) x.m.lk x.m.lc x.m.lo x.m.ln x.m.ct).val 66 (Int.ofNat 7)) ⟨_, rfl⟩)]
    (V.any Int (fun (v : Int) => v = (Mm.mk (fun (e : Nat) => x.m.g e) x.m.lk x.m.lc x.m.lo x.m.ln x.m.ct).val 66 (Int.ofNat 7)) fun (x_2 : Int) => nN [(12, .lt2 0 1 0 1)]
    (V.need (I (6, XBc.mk x.t (Int.ofNat 0) (Int.ofNat 0) (Int.ofNat 0) (Int.ofNat 0) (Int.ofNat 0) (Int.ofNat 0) (Int.ofNat 0) (Int.ofNat 0) (IntKind.i64.wrap ((↑x.k : Int) + Int.ofNat 1)).toNat (Mm.mk (fun (e : Nat) => x_1.g e) x_1.lk x_1.lc x_1.lo x_1.ln x_1.ct) (El.mk x.l.n (Evs.mk (fun (i : Nat) => x.l.v.k i) (fun (i : Nat) => x.l.v.w i) (fun (i : Nat) => x.l.v.t i) (fun (i : Nat) => x.l.v.o i) fun (i : Nat) => x.l.v.l i)) x.nc))
    (V.need (200 - (IntKind.i64.wrap ((↑x.k : Int) + Int.ofNat 1)).toNat < 200 - x.k)
    (V.need (IntKind.i64.wrap ((↑x.k : Int) + Int.ofNat 1) = (↑(IntKind.i64.wrap ((↑x.k : Int) + Int.ofNat 1)).toNat : Int))
    (nN [(1, .pf (x.t = x.t) rfl), (1, .pf (lv = lv) rfl), (1, .pf (x_1.lk = x_1.lk) rfl), (1, .pf (x_1.lc = x_1.lc) rfl), (1, .pf (x_1.lo = x_1.lo) rfl), (1, .pf (x_1.ln = x_1.ln) rfl), (1, .pf (x_1.ct = x_1.ct) rfl), (1, .eq 66 66), (1, .le 66 66), (1, .pf (∀ (e : Nat), e < 66 → x_1.g e = x_1.g e) (by intros; rfl)), (1, .pf (x.l.n = x.l.n) rfl), (2, .pf (x.nc = x.nc) rfl), (1, .pf (x.l.n ≤ x.l.n) (Nat.le_refl _)), (1, .pf (∀ (e : Nat), e < x.l.n → x.l.v.k e = x.l.v.k e) (by intros; rfl)), (1, .pf (∀ (e : Nat), e < x.l.n → x.l.v.w e = x.l.v.w e) (by intros; rfl)), (1, .pf (∀ (e : Nat), e < x.l.n → x.l.v.t e = x.l.v.t e) (by intros; rfl)), (1, .pf (∀ (e : Nat), e < x.l.n → x.l.v.o e = x.l.v.o e) (by intros; rfl)), (1, .pf (∀ (e : Nat), e < x.l.n → x.l.v.l e = x.l.v.l e) (by intros; rfl))] V.ok)))))))
    (V.need (Int.ofNat 0 ≤ IntKind.u64.wrap lv)
    (nN [(1, .eqI 7 7), (1, .pf (IntKind.u64.wrap (Int.ofNat 1 * Int.ofNat 2 ^ min (IntKind.u64.wrap lv).toNat 64) = IntKind.u64.wrap (Int.ofNat 1 * Int.ofNat 2 ^ min (IntKind.u64.wrap lv).toNat 64)) rfl), (1, .pf (x.m.lk = x.m.lk) rfl), (1, .pf (x.m.lc = x.m.lc) rfl), (1, .pf (x.m.lo = x.m.lo) rfl), (1, .pf (x.m.ln = x.m.ln) rfl), (1, .pf (x.m.ct = x.m.ct) rfl), (1, .eq 66 66), (1, .le 66 66), (1, .pf (∀ (e : Nat), e < 66 → x.m.g e = x.m.g e) (by intros; rfl)), (1, .pf (∃ (x_1 : Mm), x_1 = (Mm.mk (fun (e : Nat) => x.m.g e) x.m.lk x.m.lc x.m.lo x.m.ln x.m.ct).acc 66 (Int.ofNat 4) (Int.ofNat 7) (bits BinOp.or IntKind.u64 ((Mm.mk (fun (e : Nat) => x.m.g e) x.m.lk x.m.lc x.m.lo x.m.ln x.m.ct).val 66 (Int.ofNat 7)) (IntKind.u64.wrap (Int.ofNat 1 * Int.ofNat 2 ^ min (IntKind.u64.wrap lv).toNat 64)))) ⟨_, rfl⟩)]
    (V.any Mm (fun (m' : Mm) => m' = (Mm.mk (fun (e : Nat) => x.m.g e) x.m.lk x.m.lc x.m.lo x.m.ln x.m.ct).acc 66 (Int.ofNat 4) (Int.ofNat 7) (bits BinOp.or IntKind.u64 ((Mm.mk (fun (e : Nat) => x.m.g e) x.m.lk x.m.lc x.m.lo x.m.ln x.m.ct).val 66 (Int.ofNat 7)) (IntKind.u64.wrap (Int.ofNat 1 * Int.ofNat 2 ^ min (IntKind.u64.wrap lv).toNat 64)))) fun (x_1 : Mm) => nN [(1, .pf (∃ (x_2 : Int), x_2 = (Mm.mk (fun (e : Nat) => x.m.g e) x.m.lk x.m.lc x.m.lo x.m.ln x.m.ct).val 66 (Int.ofNat 7)) ⟨_, rfl⟩)]
    (V.any Int (fun (v : Int) => v = (Mm.mk (fun (e : Nat) => x.m.g e) x.m.lk x.m.lc x.m.lo x.m.ln x.m.ct).val 66 (Int.ofNat 7)) fun (x_2 : Int) => nN [(12, .lt2 0 1 0 1)]
    (V.need (I (6, XBc.mk x.t (Int.ofNat 0) (Int.ofNat 0) (Int.ofNat 0) (Int.ofNat 0) (Int.ofNat 0) (Int.ofNat 0) (Int.ofNat 0) (Int.ofNat 0) (IntKind.i64.wrap ((↑x.k : Int) + Int.ofNat 1)).toNat (Mm.mk (fun (e : Nat) => x_1.g e) x_1.lk x_1.lc x_1.lo x_1.ln x_1.ct) (El.mk x.l.n (Evs.mk (fun (i : Nat) => x.l.v.k i) (fun (i : Nat) => x.l.v.w i) (fun (i : Nat) => x.l.v.t i) (fun (i : Nat) => x.l.v.o i) fun (i : Nat) => x.l.v.l i)) x.nc))
    (V.need (200 - (IntKind.i64.wrap ((↑x.k : Int) + Int.ofNat 1)).toNat < 200 - x.k)
    (V.need (IntKind.i64.wrap ((↑x.k : Int) + Int.ofNat 1) = (↑(IntKind.i64.wrap ((↑x.k : Int) + Int.ofNat 1)).toNat : Int))
    (nN [(1, .pf (x.t = x.t) rfl), (1, .pf (lv = lv) rfl), (1, .pf (x_1.lk = x_1.lk) rfl), (1, .pf (x_1.lc = x_1.lc) rfl), (1, .pf (x_1.lo = x_1.lo) rfl), (1, .pf (x_1.ln = x_1.ln) rfl), (1, .pf (x_1.ct = x_1.ct) rfl), (1, .eq 66 66), (1, .le 66 66), (1, .pf (∀ (e : Nat), e < 66 → x_1.g e = x_1.g e) (by intros; rfl)), (1, .pf (x.l.n = x.l.n) rfl), (2, .pf (x.nc = x.nc) rfl), (1, .pf (x.l.n ≤ x.l.n) (Nat.le_refl _)), (1, .pf (∀ (e : Nat), e < x.l.n → x.l.v.k e = x.l.v.k e) (by intros; rfl)), (1, .pf (∀ (e : Nat), e < x.l.n → x.l.v.w e = x.l.v.w e) (by intros; rfl)), (1, .pf (∀ (e : Nat), e < x.l.n → x.l.v.t e = x.l.v.t e) (by intros; rfl)), (1, .pf (∀ (e : Nat), e < x.l.n → x.l.v.o e = x.l.v.o e) (by intros; rfl)), (1, .pf (∀ (e : Nat), e < x.l.n → x.l.v.l e = x.l.v.l e) (by intros; rfl))] V.ok)))))))))))
    (V.need (φ (Re.mk (Int.negSucc 0) (Int.ofNat 0) (↑x.k : Int) (Mm.mk (fun (e : Nat) => x.m.g e) x.m.lk x.m.lc x.m.lo x.m.ln x.m.ct) (El.mk x.l.n (Evs.mk (fun (i : Nat) => x.l.v.k i) (fun (i : Nat) => x.l.v.w i) (fun (i : Nat) => x.l.v.t i) (fun (i : Nat) => x.l.v.o i) fun (i : Nat) => x.l.v.l i)), x.nc))
    (nN [(1, .pf (Int.negSucc 0 = Int.negSucc 0) rfl), (1, .eqI 0 0), (1, .pf ((↑x.k : Int) = (↑x.k : Int)) rfl), (1, .pf (x.l.n = x.l.n) rfl), (1, .pf (x.nc = x.nc) rfl), (1, .pf (x.m.lk = x.m.lk) rfl), (1, .pf (x.m.lc = x.m.lc) rfl), (1, .pf (x.m.lo = x.m.lo) rfl), (1, .pf (x.m.ln = x.m.ln) rfl), (1, .pf (x.m.ct = x.m.ct) rfl), (1, .eq 66 66), (1, .le 66 66), (1, .pf (∀ (e : Nat), e < 66 → x.m.g e = x.m.g e) (by intros; rfl)), (1, .pf (x.nc = x.nc) rfl), (1, .pf (x.l.n ≤ x.l.n) (Nat.le_refl _)), (1, .pf (∀ (e : Nat), e < x.l.n → x.l.v.k e = x.l.v.k e) (by intros; rfl)), (1, .pf (∀ (e : Nat), e < x.l.n → x.l.v.w e = x.l.v.w e) (by intros; rfl)), (1, .pf (∀ (e : Nat), e < x.l.n → x.l.v.t e = x.l.v.t e) (by intros; rfl)), (1, .pf (∀ (e : Nat), e < x.l.n → x.l.v.o e = x.l.v.o e) (by intros; rfl)), (1, .pf (∀ (e : Nat), e < x.l.n → x.l.v.l e = x.l.v.l e) (by intros; rfl))] V.ok)))
    (V.any Bool (fun (x : Bool) => True) fun (b : Bool) => V.br b
    (V.any XBc (fun (x : XBc) => I (6, x)) fun (x : XBc) => V.br (decide ((↑x.k : Int) < Int.ofNat 200))
    (nN [(19, .lt2 0 1 0 1), (1, .pf (x.t = x.t) rfl), (1, .eqI 8 8), (1, .eqI 29 29), (1, .eqI 5 5)]
    (V.need (okAt x.t (Int.ofNat 8) (Int.ofNat 29) (Int.ofNat 5))
    (nN [(1, .pf (∃ (x_1 : Int), x_1 = Int.ofNat 29 + x.t * Int.ofNat 5) ⟨_, rfl⟩)]
    (V.any Int (fun (r : Int) => r = Int.ofNat 29 + x.t * Int.ofNat 5) fun (x_1 : Int) => nN [(1, .pf (x_1 = x_1) rfl), (1, .pf (x.m.lk = x.m.lk) rfl), (1, .pf (x.m.lc = x.m.lc) rfl), (1, .pf (x.m.lo = x.m.lo) rfl), (1, .pf (x.m.ln = x.m.ln) rfl), (1, .pf (x.m.ct = x.m.ct) rfl), (1, .eq 66 66), (1, .le 66 66), (1, .pf (∀ (e : Nat), e < 66 → x.m.g e = x.m.g e) (by intros; rfl)), (1, .pf (∃ (x_2 : Mm), x_2 = (Mm.mk (fun (e : Nat) => x.m.g e) x.m.lk x.m.lc x.m.lo x.m.ln x.m.ct).acc 66 (Int.ofNat 1) x_1 ((Mm.mk (fun (e : Nat) => x.m.g e) x.m.lk x.m.lc x.m.lo x.m.ln x.m.ct).val 66 x_1)) ⟨_, rfl⟩)]
    (V.any Mm (fun (m' : Mm) => m' = (Mm.mk (fun (e : Nat) => x.m.g e) x.m.lk x.m.lc x.m.lo x.m.ln x.m.ct).acc 66 (Int.ofNat 1) x_1 ((Mm.mk (fun (e : Nat) => x.m.g e) x.m.lk x.m.lc x.m.lo x.m.ln x.m.ct).val 66 x_1)) fun (x_2 : Mm) => nN [(1, .pf (∃ (x_3 : Int), x_3 = (Mm.mk (fun (e : Nat) => x.m.g e) x.m.lk x.m.lc x.m.lo x.m.ln x.m.ct).val 66 x_1) ⟨_, rfl⟩)]
    (V.any Int (fun (v : Int) => v = (Mm.mk (fun (e : Nat) => x.m.g e) x.m.lk x.m.lc x.m.lo x.m.ln x.m.ct).val 66 x_1) fun (x_3 : Int) => V.br (x_3 == Int.ofNat 0)
    (nN [(6, .lt2 0 1 0 1)]
    (V.need (φ (Re.mk (Int.ofNat 0) (Int.ofNat 0) (IntKind.i64.wrap ((↑x.k : Int) + Int.ofNat 1)) (Mm.mk (fun (e : Nat) => x_2.g e) x_2.lk x_2.lc x_2.lo x_2.ln x_2.ct) (El.mk x.l.n (Evs.mk (fun (i : Nat) => x.l.v.k i) (fun (i : Nat) => x.l.v.w i) (fun (i : Nat) => x.l.v.t i) (fun (i : Nat) => x.l.v.o i) fun (i : Nat) => x.l.v.l i)), x.nc))
    (nN [(2, .eqI 0 0), (1, .pf (IntKind.i64.wrap ((↑x.k : Int) + Int.ofNat 1) = IntKind.i64.wrap ((↑x.k : Int) + Int.ofNat 1)) rfl), (1, .pf (x.l.n = x.l.n) rfl), (1, .pf (x.nc = x.nc) rfl), (1, .pf (x_2.lk = x_2.lk) rfl), (1, .pf (x_2.lc = x_2.lc) rfl), (1, .pf (x_2.lo = x_2.lo) rfl), (1, .pf (x_2.ln = x_2.ln) rfl), (1, .pf (x_2.ct = x_2.ct) rfl), (1, .eq 66 66), (1, .le 66 66), (1, .pf (∀ (e : Nat), e < 66 → x_2.g e = x_2.g e) (by intros; rfl)), (1, .pf (x.nc = x.nc) rfl), (1, .pf (x.l.n ≤ x.l.n) (Nat.le_refl _)), (1, .pf (∀ (e : Nat), e < x.l.n → x.l.v.k e = x.l.v.k e) (by intros; rfl)), (1, .pf (∀ (e : Nat), e < x.l.n → x.l.v.w e = x.l.v.w e) (by intros; rfl)), (1, .pf (∀ (e : Nat), e < x.l.n → x.l.v.t e = x.l.v.t e) (by intros; rfl)), (1, .pf (∀ (e : Nat), e < x.l.n → x.l.v.o e = x.l.v.o e) (by intros; rfl)), (1, .pf (∀ (e : Nat), e < x.l.n → x.l.v.l e = x.l.v.l e) (by intros; rfl))] V.ok)))
    (V.need (I (0, XBc.mk (IntKind.i64.wrap (IntKind.u64.wrap (x_3 - Int.ofNat 1))) (Int.ofNat 0) (Int.ofNat 0) (Int.ofNat 0) (Int.ofNat 0) (Int.ofNat 0) (Int.ofNat 0) (Int.ofNat 0) (Int.ofNat 0) (IntKind.i64.wrap ((↑x.k : Int) + Int.ofNat 1)).toNat (Mm.mk (fun (e : Nat) => x_2.g e) x_2.lk x_2.lc x_2.lo x_2.ln x_2.ct) (El.mk x.l.n (Evs.mk (fun (i : Nat) => x.l.v.k i) (fun (i : Nat) => x.l.v.w i) (fun (i : Nat) => x.l.v.t i) (fun (i : Nat) => x.l.v.o i) fun (i : Nat) => x.l.v.l i)) x.nc))
    (V.need (200 - (IntKind.i64.wrap ((↑x.k : Int) + Int.ofNat 1)).toNat < 200 - x.k)
    (V.need (IntKind.i64.wrap ((↑x.k : Int) + Int.ofNat 1) = (↑(IntKind.i64.wrap ((↑x.k : Int) + Int.ofNat 1)).toNat : Int))
    (nN [(1, .pf (IntKind.i64.wrap (IntKind.u64.wrap (x_3 - Int.ofNat 1)) = IntKind.i64.wrap (IntKind.u64.wrap (x_3 - Int.ofNat 1))) rfl), (1, .pf (lv = lv) rfl), (1, .pf (x_2.lk = x_2.lk) rfl), (1, .pf (x_2.lc = x_2.lc) rfl), (1, .pf (x_2.lo = x_2.lo) rfl), (1, .pf (x_2.ln = x_2.ln) rfl), (1, .pf (x_2.ct = x_2.ct) rfl), (1, .eq 66 66), (1, .le 66 66), (1, .pf (∀ (e : Nat), e < 66 → x_2.g e = x_2.g e) (by intros; rfl)), (1, .pf (x.l.n = x.l.n) rfl), (2, .pf (x.nc = x.nc) rfl), (1, .pf (x.l.n ≤ x.l.n) (Nat.le_refl _)), (1, .pf (∀ (e : Nat), e < x.l.n → x.l.v.k e = x.l.v.k e) (by intros; rfl)), (1, .pf (∀ (e : Nat), e < x.l.n → x.l.v.w e = x.l.v.w e) (by intros; rfl)), (1, .pf (∀ (e : Nat), e < x.l.n → x.l.v.t e = x.l.v.t e) (by intros; rfl)), (1, .pf (∀ (e : Nat), e < x.l.n → x.l.v.o e = x.l.v.o e) (by intros; rfl)), (1, .pf (∀ (e : Nat), e < x.l.n → x.l.v.l e = x.l.v.l e) (by intros; rfl)), (1, .le 0 0), (1, .pf (∀ (i : Nat), i < 0 → 0 ≤ 0) (by intros; exact Nat.le_refl _)), (1, .le 0 0), (1, .pf (∀ (i : Nat), i < 0 → 0 ≤ 0) (by intros; exact Nat.le_refl _))] V.ok))))))))))
    (V.need (φ (Re.mk (Int.negSucc 0) (Int.ofNat 0) (↑x.k : Int) (Mm.mk (fun (e : Nat) => x.m.g e) x.m.lk x.m.lc x.m.lo x.m.ln x.m.ct) (El.mk x.l.n (Evs.mk (fun (i : Nat) => x.l.v.k i) (fun (i : Nat) => x.l.v.w i) (fun (i : Nat) => x.l.v.t i) (fun (i : Nat) => x.l.v.o i) fun (i : Nat) => x.l.v.l i)), x.nc))
    (nN [(1, .pf (Int.negSucc 0 = Int.negSucc 0) rfl), (1, .eqI 0 0), (1, .pf ((↑x.k : Int) = (↑x.k : Int)) rfl), (1, .pf (x.l.n = x.l.n) rfl), (1, .pf (x.nc = x.nc) rfl), (1, .pf (x.m.lk = x.m.lk) rfl), (1, .pf (x.m.lc = x.m.lc) rfl), (1, .pf (x.m.lo = x.m.lo) rfl), (1, .pf (x.m.ln = x.m.ln) rfl), (1, .pf (x.m.ct = x.m.ct) rfl), (1, .eq 66 66), (1, .le 66 66), (1, .pf (∀ (e : Nat), e < 66 → x.m.g e = x.m.g e) (by intros; rfl)), (1, .pf (x.nc = x.nc) rfl), (1, .pf (x.l.n ≤ x.l.n) (Nat.le_refl _)), (1, .pf (∀ (e : Nat), e < x.l.n → x.l.v.k e = x.l.v.k e) (by intros; rfl)), (1, .pf (∀ (e : Nat), e < x.l.n → x.l.v.w e = x.l.v.w e) (by intros; rfl)), (1, .pf (∀ (e : Nat), e < x.l.n → x.l.v.t e = x.l.v.t e) (by intros; rfl)), (1, .pf (∀ (e : Nat), e < x.l.n → x.l.v.o e = x.l.v.o e) (by intros; rfl)), (1, .pf (∀ (e : Nat), e < x.l.n → x.l.v.l e = x.l.v.l e) (by intros; rfl))] V.ok))) V.ok)))))))))))) := by kernel_rfl


end Go.Proofs.Ytomaagmleafjeaa.Md

/- Walk alone over a chain of tasks: the conditions hold. -/
set_option linter.unusedVariables false
set_option linter.unusedSimpArgs false
set_option maxRecDepth 100000
namespace Go.Proofs.Ytomaagmleafjeaa.Md
open Go Go.RowKit Sx Cn Dc Ck Vc
section
variable {n : Nat} {lv : Int} {bf : Nat → Int} {rd : Bool} {T : Nat} {m m' : Mm} {l l' : El} {nc nc' : Nat}
theorem BcM.low (h : BcM n lv bf rd T m l nc) (hg : ∀ e, 26 ≤ e → m'.g e = m.g e) (ho : ∀ e, 0 ≤ m'.g e ∧ m'.g e ≤ 18446744073709551615) (hl : l'.n = l.n) (hn : l'.n ≤ nc') : BcM n lv bf rd T m' l' nc' :=
  ⟨h.le, fun u hu => by rw [hg _ (by unfold cb; omega)]; exact h.up u hu, fun u hu h8 => by rw [hg _ (by unfold cb; omega)]; exact h.dn u hu h8, fun u hu => by rw [hg _ (by unfold cb; omega)]; exact h.st u hu, fun u hu => by rw [hg _ (by unfold cb; omega)]; exact h.wt u hu, by rw [hl]; exact h.ev, hn, ho⟩
theorem BcM.same (h : BcM n lv bf rd T m l nc) (hg : ∀ e, m'.g e = m.g e) : BcM n lv bf rd T m' l nc :=
  h.low (fun e _ => hg e) (fun e => by rw [hg]; exact h.ok e) rfl h.nc
theorem BcM.skip (h : BcM n lv bf rd T m l nc) (hT : T < n) (hn : n ≤ 8) (hge : lv ≤ bf T) : BcM n lv bf rd (T + 1) m l nc :=
  ⟨hT, fun u hu => by
    by_cases e : u < T
    · exact h.up u e
    · have : u = T := by omega
      subst this
      rw [h.dn u (Nat.le_refl _) (by omega), Int.max_eq_right hge], fun u hu h8 => h.dn u (by omega) h8, h.st, h.wt, by
    rw [h.ev]
    show _ = rais lv bf T + (if bf T < lv then 1 else 0)
    rw [if_neg (by omega)]
    rfl, h.nc, h.ok⟩
theorem BcM.rise (h : BcM n lv bf rd T m l nc) (hT : T < n) (hn : n ≤ 8) (hlt : bf T < lv) (hl : 0 ≤ lv ∧ lv < 3) (hm : ∀ e, e ≠ cb T 1 → m'.g e = m.g e) (h1 : m'.g (cb T 1) = lv) (hl' : l'.n = l.n + 1) (hc : l'.n ≤ nc') : BcM n lv bf rd (T + 1) m' l' nc' :=
  ⟨hT, fun u hu => by
    by_cases e : u < T
    · rw [hm _ (by unfold cb; omega)]
      exact h.up u e
    · have : u = T := by omega
      subst this
      rw [h1, Int.max_eq_left (by omega)], fun u hu h8 => by rw [hm _ (by unfold cb; omega)]; exact h.dn u (by omega) h8, fun u hu => by rw [hm _ (by unfold cb; omega)]; exact h.st u hu, fun u hu => by rw [hm _ (by unfold cb; omega)]; exact h.wt u hu, by
    rw [hl', h.ev]
    show _ = rais lv bf T + (if bf T < lv then 1 else 0)
    rw [if_pos hlt], hc, fun e => by
    by_cases he : e = cb T 1
    · subst he
      rw [h1]
      omega
    · rw [hm e he]
      exact h.ok e⟩
theorem dqE.same (h : dqE m) (hg : ∀ e, e < 26 → m'.g e = m.g e) : dqE m' := fun e h1 h2 => by rw [hg e h2]; exact h e h1 h2
theorem dqP.same {t : Int} (h : dqP lv t m) (hl : 0 ≤ lv ∧ lv < 3) (hg : ∀ e, 8 ≤ e → e < 26 → m'.g e = m.g e) : dqP lv t m' := by
  obtain ⟨h0, h1, h2, h3⟩ := h
  refine ⟨?_, ?_, ?_, fun v v0 v3 hv => ?_⟩
  · rw [hg _ (by unfold db; omega) (by unfold db; omega)]; exact h0
  · rw [hg _ (by unfold db; omega) (by unfold db; omega)]; exact h1
  · rw [hg _ (by unfold db; omega) (by unfold db; omega)]; exact h2
  · rw [hg _ (by unfold db; omega) (by unfold db; omega), hg _ (by unfold db; omega) (by unfold db; omega)]
    exact h3 v v0 v3 hv
theorem ndl {a b : Int} (hc : a < b) {I : Decidable (a < b)} (h : (!@decide (a < b) I) = true) : False := by
  rw [show @decide (a < b) I = true from decide_eq_true hc] at h
  cases h
theorem ceqt {c k : Int} (hc : c ≠ k) (h : (c == k) = true) : False := hc (eq_of_beq h)
theorem rais_le : ∀ {T : Nat}, rais lv bf T ≤ T
  | 0 => Nat.le_refl _
  | T + 1 => by
    have := @rais_le T
    show rais lv bf T + (if bf T < lv then 1 else 0) ≤ T + 1
    split <;> omega
theorem okB {t : Int} {k : Int} (ht : 0 ≤ t ∧ t < 8) (hk : 0 ≤ k ∧ k ≤ 40) : okAt t (Int.ofNat 8) k (Int.ofNat 5) := ⟨by show 0 ≤ t ∧ t < (8 : Int); omega, by show 0 ≤ t * (5 : Int) ∧ t * (5 : Int) ≤ 1000000; omega, by omega⟩
theorem val_cb {M : Mm} {a : Int} {t k : Nat} (ht : t < 8) (hk : k ≤ 4) (ha : a = 26 + t * 5 + k) : M.val 66 a = M.g (cb t k) := by
  subst ha
  rw [Mm.val_eq (by omega) (by omega)]
  congr 1
  unfold cb
  omega
end
set_option maxHeartbeats 16000000 in
theorem vhBc {n : Nat} {lv : Int} {bf : Nat → Int} {rd : Bool} {m : Mm} {l : El} {nc : Nat} (hn : 1 ≤ n ∧ n ≤ 8) (hlv : 0 ≤ lv ∧ lv < 3) (hb : ∀ u, 0 ≤ bf u ∧ bf u < 3) (hM : BcM n lv bf rd 0 m l nc) (hE : dqE m) : VHolds (verBc 0 lv m l nc (IBc n lv bf rd) (φBc n lv bf rd)) := by
  constructor
  rw [verBc_eq]
  refine V.needI ⟨0, hn.1, rfl, hM, hE, Nat.zero_le _⟩ (V.needI rfl (nN_h rfl (V.needI (fun i h => by omega) (V.needI (fun i h => by omega) (V.needI ?_
    (V.anyI fun b _ => V.brI (fun _ => V.anyI fun x hx => ?s0) (fun _ => V.anyI fun b _ => V.brI (fun _ => V.anyI fun x hx => ?s1) (fun _ => V.anyI fun b _ => V.brI (fun _ => V.anyI fun x hx => ?s2)
      (fun _ => V.anyI fun b _ => V.brI (fun _ => V.anyI fun x hx => ?s3) (fun _ => V.anyI fun b _ => V.brI (fun _ => V.anyI fun x hx => ?s4) (fun _ => V.anyI fun b _ => V.brI (fun _ => V.anyI fun x hx => ?s5) (fun _ => V.anyI fun b _ => V.brI (fun _ => V.anyI fun x hx => ?s6) (fun _ => V.okI)))))))))))))
  · rintro ⟨s, x⟩ ⟨t, _, _, h⟩
    show s < 7
    rcases s with _ | _ | _ | _ | _ | _ | _ | s
    all_goals first | omega | exact h.elim
  case' s0 => obtain ⟨t, ht, ex, hM, hE, hk⟩ := hx
  case' s1 => obtain ⟨t, ht, ex, hM, hE, hk, hr, hq, hlt⟩ := hx
  case' s2 => obtain ⟨t, ht, ex, hM, hE, hk, hlt⟩ := hx
  case' s3 => obtain ⟨t, ht, ex, hM, hE, hk, hlt, hlast, hrd⟩ := hx
  case' s4 =>
    obtain ⟨t, ht, ex, hM, hk, hlt, hlast, hrd, hln, hb0, hq, hz, h4⟩ := hx
    dsimp only at hln hb0 hq hz h4
  case' s5 => obtain ⟨t, ht, ex, hM, hk, hlt, hlast, hrd, hP⟩ := hx
  case' s6 => obtain ⟨t, ht, ex, hM, hk, hD⟩ := hx
  all_goals
    have ex : x.t = (t : Int) := ex
    dsimp only at hk hM
    have hk200 : x.k < 190 := by omega
    refine V.brI (fun _ => ?_) (fun h => absurd (of_decide_eq_false h) (by show ¬ ¬ ((x.k : Int) < (200 : Int)); omega))
    have ek : IntKind.i64.wrap ((x.k : Int) + Int.ofNat 1) = ((x.k + 1 : Nat) : Int) := wnat (by omega)
    simp only [ek, Int.toNat_natCast, Mm.eta]
    have okA : okAt x.t (Int.ofNat 8) (Int.ofNat 26) (Int.ofNat 5) := okB (by omega) (by decide)
    have okA1 : okAt x.t (Int.ofNat 8) (Int.ofNat 27) (Int.ofNat 5) := okB (by omega) (by decide)
    have okA3 : okAt x.t (Int.ofNat 8) (Int.ofNat 29) (Int.ofNat 5) := okB (by omega) (by decide)
    have hmu : 200 - (x.k + 1) < 200 - x.k := by omega
  case s0 =>
    dsimp only at hE
    have hvt := hM.dn t (Nat.le_refl _) (by omega)
    have hbt := hb t
    ((repeat' first | with_reducible refine nN_h rfl ?_ | with_reducible refine V.brT ?_ | with_reducible refine V.brF ?_ | with_reducible refine V.needI ?_ ?_) <;> (try first | with_reducible exact V.okI | exact rfl | exact ⟨Nat.le_refl _, rfl⟩ | exact Nat.le_refl _ | assumption | omega | trivial | decide | (intros; rfl) | (intros; trivial)))
    refine V.brI (fun _ => ?_) (fun h => (dgf (by show x.t ≥ (0 : Int); omega) h).elim)
    refine V.brI (fun _ => ?_) (fun h => (dlf (by show x.t < (8 : Int); omega) h).elim)
    refine V.brI (fun _ => ?_) (fun h => (dgf (by show lv ≥ (0 : Int); omega) h).elim)
    refine V.brI (fun h => (ndl (by show lv < (3 : Int); omega) h).elim) (fun _ => ?_)
    ((repeat' first | with_reducible refine nN_h rfl ?_ | with_reducible refine V.brT ?_ | with_reducible refine V.brF ?_ | with_reducible refine V.needI ?_ ?_) <;> (try first | with_reducible exact V.okI | exact rfl | exact ⟨Nat.le_refl _, rfl⟩ | exact Nat.le_refl _ | assumption | omega | trivial | decide | (intros; rfl) | (intros; trivial)))
    refine V.brI (fun _ => ?_) (fun h => (dgf (by show x.t ≥ (0 : Int); omega) h).elim)
    refine V.brI (fun _ => ?_) (fun h => (dlf (by show x.t < (8 : Int); omega) h).elim)
    refine V.brI (fun _ => ?_) (fun h => (dgf (by show lv ≥ (0 : Int); omega) h).elim)
    refine V.brI (fun h => (ndl (by show lv < (3 : Int); omega) h).elim) (fun _ => ?_)
    ((repeat' first | with_reducible refine nN_h rfl ?_ | with_reducible refine V.brT ?_ | with_reducible refine V.brF ?_ | with_reducible refine V.needI ?_ ?_) <;> (try first | with_reducible exact V.okI | exact rfl | exact ⟨Nat.le_refl _, rfl⟩ | exact Nat.le_refl _ | assumption | omega | trivial | decide | (intros; rfl) | (intros; trivial)))
    refine V.anyI fun a ha => ?_
    have ha : a = 27 + x.t * 5 := ha
    ((repeat' first | with_reducible refine nN_h rfl ?_ | with_reducible refine V.brT ?_ | with_reducible refine V.brF ?_ | with_reducible refine V.needI ?_ ?_) <;> (try first | with_reducible exact V.okI | exact rfl | exact ⟨Nat.le_refl _, rfl⟩ | exact Nat.le_refl _ | assumption | omega | trivial | decide | (intros; rfl) | (intros; trivial)))
    refine V.anyI fun m1 hm1 => ?_
    have g1 : ∀ e, m1.g e = x.m.g e := fun e => by rw [hm1]; exact Mm.acc_ld e
    ((repeat' first | with_reducible refine nN_h rfl ?_ | with_reducible refine V.brT ?_ | with_reducible refine V.brF ?_ | with_reducible refine V.needI ?_ ?_) <;> (try first | with_reducible exact V.okI | exact rfl | exact ⟨Nat.le_refl _, rfl⟩ | exact Nat.le_refl _ | assumption | omega | trivial | decide | (intros; rfl) | (intros; trivial)))
    refine V.anyI fun v hv => ?_
    rw [val_cb (t := t) (k := 1) (by omega) (by omega) (by omega)] at hv
    rw [hvt] at hv
    have wv : IntKind.i64.wrap v = v := w64 (by omega)
    simp only [wv]
    ((repeat' first | with_reducible refine nN_h rfl ?_ | with_reducible refine V.brT ?_ | with_reducible refine V.brF ?_ | with_reducible refine V.needI ?_ ?_) <;> (try first | with_reducible exact V.okI | exact rfl | exact ⟨Nat.le_refl _, rfl⟩ | exact Nat.le_refl _ | assumption | omega | trivial | decide | (intros; rfl) | (intros; trivial)))
    refine V.brI (fun h => ?_) fun h => ?_
    · have h : v ≥ lv := of_decide_eq_true h
      ((repeat' first | with_reducible refine nN_h rfl ?_ | with_reducible refine V.brT ?_ | with_reducible refine V.brF ?_ | with_reducible refine V.needI ?_ ?_) <;> (try first | with_reducible exact V.okI | exact rfl | exact ⟨Nat.le_refl _, rfl⟩ | exact Nat.le_refl _ | assumption | omega | trivial | decide | (intros; rfl) | (intros; trivial)))
      exact ⟨t, ht, ex, (hM.same g1).skip ht hn.2 (by omega), by show x.k + 1 ≤ 12 * t + 8; omega, Eq.mpr (if_neg (by omega)) (hE.same fun e _ => g1 e)⟩
    · have h : ¬ v ≥ lv := of_decide_eq_false h
      ((repeat' first | with_reducible refine nN_h rfl ?_ | with_reducible refine V.brT ?_ | with_reducible refine V.brF ?_ | with_reducible refine V.needI ?_ ?_) <;> (try first | with_reducible exact V.okI | exact rfl | exact ⟨Nat.le_refl _, rfl⟩ | exact Nat.le_refl _ | assumption | omega | trivial | decide | (intros; rfl) | (intros; trivial)))
      exact ⟨t, ht, ex, hM.same g1, hE.same fun e _ => g1 e, by show x.k + 1 ≤ 12 * t + 1; omega, rfl, hv, by omega⟩
  case s1 =>
    dsimp only at hE hr hq
    have hvt := hM.dn t (Nat.le_refl _) (by omega)
    have hbt := hb t
    ((repeat' first | with_reducible refine nN_h rfl ?_ | with_reducible refine V.brT ?_ | with_reducible refine V.brF ?_ | with_reducible refine V.needI ?_ ?_) <;> (try first | with_reducible exact V.okI | exact rfl | exact ⟨Nat.le_refl _, rfl⟩ | exact Nat.le_refl _ | assumption | omega | trivial | decide | (intros; rfl) | (intros; trivial)))
    refine V.brI (fun _ => ?_) (fun h => (dgf (by show x.t ≥ (0 : Int); omega) h).elim)
    refine V.brI (fun _ => ?_) (fun h => (dlf (by show x.t < (8 : Int); omega) h).elim)
    refine V.brI (fun _ => ?_) (fun h => (dgf (by show lv ≥ (0 : Int); omega) h).elim)
    refine V.brI (fun h => (ndl (by show lv < (3 : Int); omega) h).elim) (fun _ => ?_)
    ((repeat' first | with_reducible refine nN_h rfl ?_ | with_reducible refine V.brT ?_ | with_reducible refine V.brF ?_ | with_reducible refine V.needI ?_ ?_) <;> (try first | with_reducible exact V.okI | exact rfl | exact ⟨Nat.le_refl _, rfl⟩ | exact Nat.le_refl _ | assumption | omega | trivial | decide | (intros; rfl) | (intros; trivial)))
    refine V.brI (fun h => (by rw [hr] at h; exact absurd h (by decide))) fun _ => ?_
    ((repeat' first | with_reducible refine nN_h rfl ?_ | with_reducible refine V.brT ?_ | with_reducible refine V.brF ?_ | with_reducible refine V.needI ?_ ?_) <;> (try first | with_reducible exact V.okI | exact rfl | exact ⟨Nat.le_refl _, rfl⟩ | exact Nat.le_refl _ | assumption | omega | trivial | decide | (intros; rfl) | (intros; trivial)))
    refine V.anyI fun a ha => ?_
    have ha : a = 27 + x.t * 5 := ha
    ((repeat' first | with_reducible refine nN_h rfl ?_ | with_reducible refine V.brT ?_ | with_reducible refine V.brF ?_ | with_reducible refine V.needI ?_ ?_) <;> (try first | with_reducible exact V.okI | exact rfl | exact ⟨Nat.le_refl _, rfl⟩ | exact Nat.le_refl _ | assumption | omega | trivial | decide | (intros; rfl) | (intros; trivial)))
    refine V.anyI fun m1 hm1 => ?_
    ((repeat' first | with_reducible refine nN_h rfl ?_ | with_reducible refine V.brT ?_ | with_reducible refine V.brF ?_ | with_reducible refine V.needI ?_ ?_) <;> (try first | with_reducible exact V.okI | exact rfl | exact ⟨Nat.le_refl _, rfl⟩ | exact Nat.le_refl _ | assumption | omega | trivial | decide | (intros; rfl) | (intros; trivial)))
    refine V.anyI fun b6 hb6 => ?_
    have ea : a.toNat = cb t 1 := by unfold cb; omega
    have hh : x.m.hit 66 a x.q = true := by rw [Mm.hit_val (by omega) (by omega), ea, hvt, hq]; exact decide_eq_true rfl
    rw [hh] at hm1 hb6
    rw [casV_t, wu64 (by omega)] at hm1
    refine V.brI (fun _ => ?_) (fun h => by rw [hb6] at h; cases h)
    have hnc := hM.nc
    have hrs : rais lv bf t ≤ t := rais_le
    have hev := hM.ev
    ((repeat' first | with_reducible refine nN_h rfl ?_ | with_reducible refine V.brT ?_ | with_reducible refine V.brF ?_ | with_reducible refine V.needI ?_ ?_) <;> (try first | with_reducible exact V.okI | exact rfl | exact ⟨Nat.le_refl _, rfl⟩ | exact Nat.le_refl _ | assumption | omega | trivial | decide | (intros; rfl) | (intros; trivial)))
    · exact ⟨by omega, by omega⟩
    refine V.anyI fun c7 hc7 => ?_
    ((repeat' first | with_reducible refine nN_h rfl ?_ | with_reducible refine V.brT ?_ | with_reducible refine V.brF ?_ | with_reducible refine V.needI ?_ ?_) <;> (try first | with_reducible exact V.okI | exact rfl | exact ⟨Nat.le_refl _, rfl⟩ | exact Nat.le_refl _ | assumption | omega | trivial | decide | (intros; rfl) | (intros; trivial)))
    exact ⟨t, ht, ex, hM.rise ht hn.2 hlt hlv (fun e he => by rw [hm1]; exact Mm.acc_ne (by omega)) (by rw [hm1]; exact Mm.acc_eq (by omega) (by omega) (by omega)) rfl hc7, hE.same fun e he => by rw [hm1]; exact Mm.acc_ne (by omega), by show x.k + 1 ≤ 12 * t + 2; omega, hlt⟩
  case s2 =>
    dsimp only at hE
    ((repeat' first | with_reducible refine nN_h rfl ?_ | with_reducible refine V.brT ?_ | with_reducible refine V.brF ?_ | with_reducible refine V.needI ?_ ?_) <;> (try first | with_reducible exact V.okI | exact rfl | exact ⟨Nat.le_refl _, rfl⟩ | exact Nat.le_refl _ | assumption | omega | trivial | decide | (intros; rfl) | (intros; trivial)))
    refine V.anyI fun a ha => ?_
    have ha : a = 26 + x.t * 5 := ha
    ((repeat' first | with_reducible refine nN_h rfl ?_ | with_reducible refine V.brT ?_ | with_reducible refine V.brF ?_ | with_reducible refine V.needI ?_ ?_) <;> (try first | with_reducible exact V.okI | exact rfl | exact ⟨Nat.le_refl _, rfl⟩ | exact Nat.le_refl _ | assumption | omega | trivial | decide | (intros; rfl) | (intros; trivial)))
    refine V.anyI fun m1 hm1 => ?_
    have g1 : ∀ e, m1.g e = x.m.g e := fun e => by rw [hm1]; exact Mm.acc_ld e
    ((repeat' first | with_reducible refine nN_h rfl ?_ | with_reducible refine V.brT ?_ | with_reducible refine V.brF ?_ | with_reducible refine V.needI ?_ ?_) <;> (try first | with_reducible exact V.okI | exact rfl | exact ⟨Nat.le_refl _, rfl⟩ | exact Nat.le_refl _ | assumption | omega | trivial | decide | (intros; rfl) | (intros; trivial)))
    refine V.anyI fun v hv => ?_
    rw [val_cb (t := t) (k := 0) (by omega) (by omega) (by omega)] at hv
    have hs := hM.st t ht
    ((repeat' first | with_reducible refine nN_h rfl ?_ | with_reducible refine V.brT ?_ | with_reducible refine V.brF ?_ | with_reducible refine V.needI ?_ ?_) <;> (try first | with_reducible exact V.okI | exact rfl | exact ⟨Nat.le_refl _, rfl⟩ | exact Nat.le_refl _ | assumption | omega | trivial | decide | (intros; rfl) | (intros; trivial)))
    refine V.brI (fun h => ?_) fun h => ?_
    · have h : v = 1 := eq_of_beq h
      obtain ⟨h1, h2⟩ := hs.1 (by rw [← hv, h])
      ((repeat' first | with_reducible refine nN_h rfl ?_ | with_reducible refine V.brT ?_ | with_reducible refine V.brF ?_ | with_reducible refine V.needI ?_ ?_) <;> (try first | with_reducible exact V.okI | exact rfl | exact ⟨Nat.le_refl _, rfl⟩ | exact Nat.le_refl _ | assumption | omega | trivial | decide | (intros; rfl) | (intros; trivial)))
      exact ⟨t, ht, ex, hM.same g1, hE.same fun e _ => g1 e, by show x.k + 1 ≤ 12 * t + 3; omega, hlt, h1, h2⟩
    · have h : v ≠ 1 := fun e => by rw [e] at h; exact absurd h (by decide)
      ((repeat' first | with_reducible refine nN_h rfl ?_ | with_reducible refine V.brT ?_ | with_reducible refine V.brF ?_ | with_reducible refine V.needI ?_ ?_) <;> (try first | with_reducible exact V.okI | exact rfl | exact ⟨Nat.le_refl _, rfl⟩ | exact Nat.le_refl _ | assumption | omega | trivial | decide | (intros; rfl) | (intros; trivial)))
      exact ⟨t, ht, ex, hM.same g1, by show x.k + 1 ≤ 12 * t + 8; omega, Eq.mpr (if_neg fun c => h (by rw [hv]; exact hs.2 ⟨c.1, c.2.1⟩)) (hE.same fun e _ => g1 e)⟩
  case s3 =>
    dsimp only at hE
    have okq : okQ (Ly.mk (Int.ofNat 1) (Int.ofNat 3) (Int.ofNat 1) (Int.ofNat 8) (Int.ofNat 4) (Int.ofNat 1) (Int.ofNat 5) (Int.ofNat 6) (Int.ofNat 7) (Int.ofNat 8) (Int.ofNat 26)) (Int.ofNat 0) lv := by
      refine ⟨by decide, ?_, by decide, by decide, by decide, by decide, ?_⟩
      · show 0 ≤ lv ∧ lv < (3 : Int); omega
      · show 0 ≤ lv * (2 + (4 : Int)) ∧ lv * (2 + (4 : Int)) ≤ 5000; omega
    ((repeat' first | with_reducible refine nN_h rfl ?_ | with_reducible refine V.brT ?_ | with_reducible refine V.brF ?_ | with_reducible refine V.needI ?_ ?_) <;> (try first | with_reducible exact V.okI | exact rfl | exact ⟨Nat.le_refl _, rfl⟩ | exact Nat.le_refl _ | assumption | omega | trivial | decide | (intros; rfl) | (intros; trivial)))
    refine V.anyI fun q hq => ?_
    have hq : q = 8 + 6 * lv := by rw [hq]; show (8 : Int) + 0 * (3 * (2 + 4)) + lv * (2 + 4) = _; omega
    ((repeat' first | with_reducible refine nN_h rfl ?_ | with_reducible refine V.brT ?_ | with_reducible refine V.brF ?_ | with_reducible refine V.needI ?_ ?_) <;> (try first | with_reducible exact V.okI | exact rfl | exact ⟨Nat.le_refl _, rfl⟩ | exact Nat.le_refl _ | assumption | omega | trivial | decide | (intros; rfl) | (intros; trivial)))
    refine V.anyI fun m1 hm1 => ?_
    have g1 : ∀ e, m1.g e = x.m.g e := fun e => by rw [hm1]; exact Mm.acc_ld e
    ((repeat' first | with_reducible refine nN_h rfl ?_ | with_reducible refine V.brT ?_ | with_reducible refine V.brF ?_ | with_reducible refine V.needI ?_ ?_) <;> (try first | with_reducible exact V.okI | exact rfl | exact ⟨Nat.le_refl _, rfl⟩ | exact Nat.le_refl _ | assumption | omega | trivial | decide | (intros; rfl) | (intros; trivial)))
    refine V.anyI fun v hv => ?_
    have hv : v = 0 := by
      rw [hv, show q + Int.ofNat 1 = q + 1 from rfl, Mm.val_eq (by omega) (by omega)]
      exact hE _ (by omega) (by omega)
    ((repeat' first | with_reducible refine nN_h rfl ?_ | with_reducible refine V.brT ?_ | with_reducible refine V.brF ?_ | with_reducible refine V.needI ?_ ?_) <;> (try first | with_reducible exact V.okI | exact rfl | exact ⟨Nat.le_refl _, rfl⟩ | exact Nat.le_refl _ | assumption | omega | trivial | decide | (intros; rfl) | (intros; trivial)))
    have hz : ∀ u : Int, 0 ≤ u → u < 3 → m1.g (db u 0) = 0 ∧ m1.g (db u 1) = 0 := fun u h0 h3 => by
      rw [g1, g1]
      exact ⟨hE _ (by unfold db; omega) (by unfold db; omega), hE _ (by unfold db; omega) (by unfold db; omega)⟩
    exact ⟨t, ht, ex, hM.same g1, by show x.k + 1 ≤ 12 * t + 2 + 2; omega, hlt, hlast, hrd, by show (2 : Int) ≤ 2 ∧ (2 : Int) ≤ 4; decide, hv, ⟨hq, by show q + 1 = _; omega, by show q + 2 = _; omega, rfl⟩, hz, fun h => absurd h (by show ¬ (2 : Int) = 4; decide)⟩
  case s4 =>
    obtain ⟨q1, q2, q3, q4⟩ := hq
    obtain ⟨z0, z1⟩ := hz lv hlv.1 hlv.2
    have e0 : ((db lv 0 : Nat) : Int) = 8 + 6 * lv := by unfold db; omega
    have e1 : ((db lv 1 : Nat) : Int) = 8 + 6 * lv + 1 := by unfold db; omega
    have e2 : ((db lv 2 : Nat) : Int) = 8 + 6 * lv + 2 := by unfold db; omega
    have eo : ∀ v : Int, 0 ≤ v → v < 3 → v ≠ lv → ∀ k : Nat, k ≤ 1 → ((db v k : Nat) : Int) ≠ 8 + 6 * lv + 1 ∧ ((db v k : Nat) : Int) ≠ 8 + 6 * lv + 2 := fun v v0 v3 hv k hk => by unfold db; omega
    ((repeat' first | with_reducible refine nN_h rfl ?_ | with_reducible refine V.brT ?_ | with_reducible refine V.brF ?_ | with_reducible refine V.needI ?_ ?_) <;> (try first | with_reducible exact V.okI | exact rfl | exact ⟨Nat.le_refl _, rfl⟩ | exact Nat.le_refl _ | assumption | omega | trivial | decide | (intros; rfl) | (intros; trivial)))
    refine V.brI (fun h => (ceqt (by show x.ln ≠ (1 : Int); omega) h).elim) fun _ => ?_
    ((repeat' first | with_reducible refine nN_h rfl ?_ | with_reducible refine V.brT ?_ | with_reducible refine V.brF ?_ | with_reducible refine V.needI ?_ ?_) <;> (try first | with_reducible exact V.okI | exact rfl | exact ⟨Nat.le_refl _, rfl⟩ | exact Nat.le_refl _ | assumption | omega | trivial | decide | (intros; rfl) | (intros; trivial)))
    refine V.brI (fun h2 => ?_) fun h2 => ?_
    · have h2 : x.ln = 2 := eq_of_beq h2
      ((repeat' first | with_reducible refine nN_h rfl ?_ | with_reducible refine V.brT ?_ | with_reducible refine V.brF ?_ | with_reducible refine V.needI ?_ ?_) <;> (try first | with_reducible exact V.okI | exact rfl | exact ⟨Nat.le_refl _, rfl⟩ | exact Nat.le_refl _ | assumption | omega | trivial | decide | (intros; rfl) | (intros; trivial)))
      refine V.anyI fun m1 hm1 => ?_
      have g1 : ∀ e, m1.g e = x.m.g e := fun e => by rw [hm1]; exact Mm.acc_ld e
      ((repeat' first | with_reducible refine nN_h rfl ?_ | with_reducible refine V.brT ?_ | with_reducible refine V.brF ?_ | with_reducible refine V.needI ?_ ?_) <;> (try first | with_reducible exact V.okI | exact rfl | exact ⟨Nat.le_refl _, rfl⟩ | exact Nat.le_refl _ | assumption | omega | trivial | decide | (intros; rfl) | (intros; trivial)))
      refine V.anyI fun v hv => ?_
      have hv : v = 0 := by rw [hv, Mm.val_eq (by omega) (by omega), show x.qt.toNat = db lv 0 by omega, z0]
      subst hv
      have ws : IntKind.i64.wrap (IntKind.u64.wrap (x.b - 0)) = 0 := by rw [hb0]; decide
      have wl : IntKind.i64.wrap (x.ln + Int.ofNat 1) = 3 := by rw [h2]; exact k3
      simp only [ws, wl]
      ((repeat' first | with_reducible refine nN_h rfl ?_ | with_reducible refine V.brT ?_ | with_reducible refine V.brF ?_ | with_reducible refine V.needI ?_ ?_) <;> (try first | with_reducible exact V.okI | exact rfl | exact ⟨Nat.le_refl _, rfl⟩ | exact Nat.le_refl _ | assumption | omega | trivial | decide | (intros; rfl) | (intros; trivial)))
      refine V.brI (fun h => (dge (by show ¬ (0 : Int) ≥ x.qc; omega) h).elim) fun _ => ?_
      ((repeat' first | with_reducible refine nN_h rfl ?_ | with_reducible refine V.brT ?_ | with_reducible refine V.brF ?_ | with_reducible refine V.needI ?_ ?_) <;> (try first | with_reducible exact V.okI | exact rfl | exact ⟨Nat.le_refl _, rfl⟩ | exact Nat.le_refl _ | assumption | omega | trivial | decide | (intros; rfl) | (intros; trivial)))
      exact ⟨t, ht, ex, hM.same g1, by show x.k + 1 ≤ 12 * t + 2 + 3; omega, hlt, hlast, hrd, by show (2 : Int) ≤ 3 ∧ (3 : Int) ≤ 4; decide, hb0, ⟨q1, q2, q3, q4⟩, fun v v0 v3 => by dsimp only; rw [g1, g1]; exact hz v v0 v3, fun h => absurd h (by show ¬ (3 : Int) = 4; decide)⟩
    · have h2 : x.ln ≠ 2 := fun e => by rw [e] at h2; exact absurd h2 (by decide)
      ((repeat' first | with_reducible refine nN_h rfl ?_ | with_reducible refine V.brT ?_ | with_reducible refine V.brF ?_ | with_reducible refine V.needI ?_ ?_) <;> (try first | with_reducible exact V.okI | exact rfl | exact ⟨Nat.le_refl _, rfl⟩ | exact Nat.le_refl _ | assumption | omega | trivial | decide | (intros; rfl) | (intros; trivial)))
      refine V.brI (fun h3 => ?_) fun h3 => ?_
      · have h3 : x.ln = 3 := eq_of_beq h3
        ((repeat' first | with_reducible refine nN_h rfl ?_ | with_reducible refine V.brT ?_ | with_reducible refine V.brF ?_ | with_reducible refine V.needI ?_ ?_) <;> (try first | with_reducible exact V.okI | exact rfl | exact ⟨Nat.le_refl _, rfl⟩ | exact Nat.le_refl _ | assumption | omega | trivial | decide | (intros; rfl) | (intros; trivial)))
        refine V.brI (fun h => (dlt (by show ¬ x.qc < (1 : Int); omega) h).elim) fun _ => ?_
        have wq : IntKind.u64.wrap x.qc = 4 := by rw [q4]; decide
        have wr : IntKind.i64.wrap (x.qr + IntKind.i64.wrap (x.b.tmod 4)) = 8 + 6 * lv + 2 := by rw [hb0, show ((0 : Int).tmod 4) = 0 from rfl, show IntKind.i64.wrap 0 = 0 from rfl, q3, w64 (by omega)]; omega
        have wt : IntKind.u64.wrap x.t = t := by rw [wu64 (by omega)]; exact ex
        have wl : IntKind.i64.wrap (x.ln + Int.ofNat 1) = 4 := by rw [h3]; exact k4
        simp only [wq, wr, wt, wl]
        ((repeat' first | with_reducible refine nN_h rfl ?_ | with_reducible refine V.brT ?_ | with_reducible refine V.brF ?_ | with_reducible refine V.needI ?_ ?_) <;> (try first | with_reducible exact V.okI | exact rfl | exact ⟨Nat.le_refl _, rfl⟩ | exact Nat.le_refl _ | assumption | omega | trivial | decide | (intros; rfl) | (intros; trivial)))
        refine V.anyI fun m1 hm1 => ?_
        have hm1 : m1 = x.m.acc 66 2 (8 + 6 * lv + 2) t := hm1
        ((repeat' first | with_reducible refine nN_h rfl ?_ | with_reducible refine V.brT ?_ | with_reducible refine V.brF ?_ | with_reducible refine V.needI ?_ ?_) <;> (try first | with_reducible exact V.okI | exact rfl | exact ⟨Nat.le_refl _, rfl⟩ | exact Nat.le_refl _ | assumption | omega | trivial | decide | (intros; rfl) | (intros; trivial)))
        have f1 : ∀ e, 26 ≤ e → m1.g e = x.m.g e := fun e he => by rw [hm1]; exact Mm.acc_ne (by omega)
        have o1 : ∀ e, 0 ≤ m1.g e ∧ m1.g e ≤ 18446744073709551615 := by rw [hm1]; exact Mm.ok_acc hM.ok (by omega)
        refine ⟨t, ht, ex, hM.low f1 o1 rfl hM.nc, by show x.k + 1 ≤ 12 * t + 2 + 4; omega, hlt, hlast, hrd, by show (2 : Int) ≤ 4 ∧ (4 : Int) ≤ 4; decide, hb0, ⟨q1, q2, q3, q4⟩, fun v v0 v3 => ?_, fun _ => ?_⟩
        · dsimp only
          by_cases c : v = lv
          · subst c
            rw [hm1, Mm.acc_ne (by omega), Mm.acc_ne (by omega)]
            exact hz v v0 v3
          · have := eo v v0 v3 c 0 (by omega)
            have := eo v v0 v3 c 1 (by omega)
            rw [hm1, Mm.acc_ne (by omega), Mm.acc_ne (by omega)]
            exact hz v v0 v3
        · dsimp only
          rw [hm1]
          exact Mm.acc_eq (by omega) (by omega) (by omega)
      · have h3 : x.ln ≠ 3 := fun e => by rw [e] at h3; exact absurd h3 (by decide)
        have z2 := h4 (by omega)
        have wb : IntKind.u64.wrap (x.b + Int.ofNat 1) = 1 := by rw [hb0]; decide
        simp only [wb]
        ((repeat' first | with_reducible refine nN_h rfl ?_ | with_reducible refine V.brT ?_ | with_reducible refine V.brF ?_ | with_reducible refine V.needI ?_ ?_) <;> (try first | with_reducible exact V.okI | exact rfl | exact ⟨Nat.le_refl _, rfl⟩ | exact Nat.le_refl _ | assumption | omega | trivial | decide | (intros; rfl) | (intros; trivial)))
        refine V.anyI fun m1 hm1 => ?_
        ((repeat' first | with_reducible refine nN_h rfl ?_ | with_reducible refine V.brT ?_ | with_reducible refine V.brF ?_ | with_reducible refine V.needI ?_ ?_) <;> (try first | with_reducible exact V.okI | exact rfl | exact ⟨Nat.le_refl _, rfl⟩ | exact Nat.le_refl _ | assumption | omega | trivial | decide | (intros; rfl) | (intros; trivial)))
        have f1 : ∀ e, 26 ≤ e → m1.g e = x.m.g e := fun e he => by rw [hm1]; exact Mm.acc_ne (by omega)
        have o1 : ∀ e, 0 ≤ m1.g e ∧ m1.g e ≤ 18446744073709551615 := by rw [hm1]; exact Mm.ok_acc hM.ok (by omega)
        refine ⟨t, ht, ex, hM.low f1 o1 rfl hM.nc, by show x.k + 1 ≤ 12 * t + 7; omega, hlt, hlast, hrd, ?_, ?_, ?_, fun v v0 v3 c => ?_⟩
        · dsimp only; rw [hm1, Mm.acc_ne (by omega)]; exact z0
        · dsimp only; rw [hm1]; exact Mm.acc_eq (by omega) (by omega) (by omega)
        · dsimp only; rw [hm1, Mm.acc_ne (by omega)]; exact z2
        · dsimp only
          have := eo v v0 v3 c 0 (by omega)
          have := eo v v0 v3 c 1 (by omega)
          rw [hm1, Mm.acc_ne (by omega), Mm.acc_ne (by omega)]
          exact hz v v0 v3
  case s5 =>
    dsimp only at hP
    ((repeat' first | with_reducible refine nN_h rfl ?_ | with_reducible refine V.brT ?_ | with_reducible refine V.brF ?_ | with_reducible refine V.needI ?_ ?_) <;> (try first | with_reducible exact V.okI | exact rfl | exact ⟨Nat.le_refl _, rfl⟩ | exact Nat.le_refl _ | assumption | omega | trivial | decide | (intros; rfl) | (intros; trivial)))
    refine V.brI (fun h => (dlt (by show ¬ lv < (0 : Int); omega) h).elim) fun _ => ?_
    ((repeat' first | with_reducible refine nN_h rfl ?_ | with_reducible refine V.brT ?_ | with_reducible refine V.brF ?_ | with_reducible refine V.needI ?_ ?_) <;> (try first | with_reducible exact V.okI | exact rfl | exact ⟨Nat.le_refl _, rfl⟩ | exact Nat.le_refl _ | assumption | omega | trivial | decide | (intros; rfl) | (intros; trivial)))
    refine V.brI (fun h => (dgt (by show ¬ lv > (63 : Int); omega) h).elim) fun _ => ?_
    have hw0 := (wrap_ok lv).1
    ((repeat' first | with_reducible refine nN_h rfl ?_ | with_reducible refine V.brT ?_ | with_reducible refine V.brF ?_ | with_reducible refine V.needI ?_ ?_) <;> (try first | with_reducible exact V.okI | exact rfl | exact ⟨Nat.le_refl _, rfl⟩ | exact Nat.le_refl _ | assumption | omega | trivial | decide | (intros; rfl) | (intros; trivial)))
    refine V.anyI fun m1 hm1 => ?_
    obtain ⟨X, hX, hm1⟩ : ∃ X, (0 ≤ X ∧ X ≤ 18446744073709551615) ∧ m1 = x.m.acc 66 4 7 X := ⟨_, bits_ok _, hm1⟩
    ((repeat' first | with_reducible refine nN_h rfl ?_ | with_reducible refine V.brT ?_ | with_reducible refine V.brF ?_ | with_reducible refine V.needI ?_ ?_) <;> (try first | with_reducible exact V.okI | exact rfl | exact ⟨Nat.le_refl _, rfl⟩ | exact Nat.le_refl _ | assumption | omega | trivial | decide | (intros; rfl) | (intros; trivial)))
    refine V.anyI fun v hv => ?_
    ((repeat' first | with_reducible refine nN_h rfl ?_ | with_reducible refine V.brT ?_ | with_reducible refine V.brF ?_ | with_reducible refine V.needI ?_ ?_) <;> (try first | with_reducible exact V.okI | exact rfl | exact ⟨Nat.le_refl _, rfl⟩ | exact Nat.le_refl _ | assumption | omega | trivial | decide | (intros; rfl) | (intros; trivial)))
    have f1 : ∀ e, 26 ≤ e → m1.g e = x.m.g e := fun e he => by rw [hm1]; exact Mm.acc_ne (by omega)
    have o1 : ∀ e, 0 ≤ m1.g e ∧ m1.g e ≤ 18446744073709551615 := by rw [hm1]; exact Mm.ok_acc hM.ok hX
    have f2 : ∀ e, 8 ≤ e → e < 26 → m1.g e = x.m.g e := fun e h8 h26 => by rw [hm1]; exact Mm.acc_ne (by omega)
    exact ⟨t, ht, ex, hM.low f1 o1 rfl hM.nc, by show x.k + 1 ≤ 12 * t + 8; omega, Eq.mpr (if_pos ⟨hlast, hrd, hlt⟩) (hP.same hlv f2)⟩
  case s6 =>
    dsimp only at hD
    ((repeat' first | with_reducible refine nN_h rfl ?_ | with_reducible refine V.brT ?_ | with_reducible refine V.brF ?_ | with_reducible refine V.needI ?_ ?_) <;> (try first | with_reducible exact V.okI | exact rfl | exact ⟨Nat.le_refl _, rfl⟩ | exact Nat.le_refl _ | assumption | omega | trivial | decide | (intros; rfl) | (intros; trivial)))
    refine V.anyI fun a ha => ?_
    have ha : a = 29 + x.t * 5 := ha
    ((repeat' first | with_reducible refine nN_h rfl ?_ | with_reducible refine V.brT ?_ | with_reducible refine V.brF ?_ | with_reducible refine V.needI ?_ ?_) <;> (try first | with_reducible exact V.okI | exact rfl | exact ⟨Nat.le_refl _, rfl⟩ | exact Nat.le_refl _ | assumption | omega | trivial | decide | (intros; rfl) | (intros; trivial)))
    refine V.anyI fun m1 hm1 => ?_
    have g1 : ∀ e, m1.g e = x.m.g e := fun e => by rw [hm1]; exact Mm.acc_ld e
    ((repeat' first | with_reducible refine nN_h rfl ?_ | with_reducible refine V.brT ?_ | with_reducible refine V.brF ?_ | with_reducible refine V.needI ?_ ?_) <;> (try first | with_reducible exact V.okI | exact rfl | exact ⟨Nat.le_refl _, rfl⟩ | exact Nat.le_refl _ | assumption | omega | trivial | decide | (intros; rfl) | (intros; trivial)))
    refine V.anyI fun v hv => ?_
    rw [val_cb (t := t) (k := 3) (by omega) (by omega) (by omega)] at hv
    have hs := hM.wt t ht
    rw [← hv] at hs
    ((repeat' first | with_reducible refine nN_h rfl ?_ | with_reducible refine V.brT ?_ | with_reducible refine V.brF ?_ | with_reducible refine V.needI ?_ ?_) <;> (try first | with_reducible exact V.okI | exact rfl | exact ⟨Nat.le_refl _, rfl⟩ | exact Nat.le_refl _ | assumption | omega | trivial | decide | (intros; rfl) | (intros; trivial)))
    by_cases hc : t + 1 < n
    · rw [if_pos hc] at hs
      have hD : dqE x.m := Eq.mp (if_neg (by omega)) hD
      refine V.brI (fun h => (ceqt (by show v ≠ (0 : Int); omega) h).elim) fun _ => ?_
      have wv : IntKind.i64.wrap (IntKind.u64.wrap (v - Int.ofNat 1)) = ((t + 1 : Nat) : Int) := by
        rw [show v - Int.ofNat 1 = ((t + 1 : Nat) : Int) by show v - (1 : Int) = _; omega, wu64 (by omega), w64 (by omega)]
      simp only [wv]
      ((repeat' first | with_reducible refine nN_h rfl ?_ | with_reducible refine V.brT ?_ | with_reducible refine V.brF ?_ | with_reducible refine V.needI ?_ ?_) <;> (try first | with_reducible exact V.okI | exact rfl | exact ⟨Nat.le_refl _, rfl⟩ | exact Nat.le_refl _ | assumption | omega | trivial | decide | (intros; rfl) | (intros; trivial)))
      exact ⟨t + 1, hc, rfl, hM.same g1, hD.same fun e _ => g1 e, by show x.k + 1 ≤ 12 * (t + 1); omega⟩
    · rw [if_neg hc] at hs
      have en : t + 1 = n := by omega
      refine V.brI (fun _ => ?_) (fun h => (by rw [hs] at h; exact absurd h (by decide)))
      ((repeat' first | with_reducible refine nN_h rfl ?_ | with_reducible refine V.brT ?_ | with_reducible refine V.brF ?_ | with_reducible refine V.needI ?_ ?_) <;> (try first | with_reducible exact V.okI | exact rfl | exact ⟨Nat.le_refl _, rfl⟩ | exact Nat.le_refl _ | assumption | omega | trivial | decide | (intros; rfl) | (intros; trivial)))
      rw [en] at hM
      refine ⟨rfl, hM.same g1, ?_⟩
      have et : n - 1 = t := by omega
      rw [et]
      by_cases hcc : rd = true ∧ bf t < lv
      · rw [if_pos hcc]
        exact (Eq.mp (if_pos ⟨en, hcc.1, hcc.2⟩) hD : dqP lv t x.m).same hlv fun e _ _ => g1 e
      · rw [if_neg hcc]
        exact (Eq.mp (if_neg fun c => hcc c.2) hD : dqE x.m).same fun e _ => g1 e
end Go.Proofs.Ytomaagmleafjeaa.Md
