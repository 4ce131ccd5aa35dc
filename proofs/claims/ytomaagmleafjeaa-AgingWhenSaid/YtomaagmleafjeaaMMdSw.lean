/- Sweep alone: the conditions, printed by program. -/
import Derived.Test.YtomaagmleafjeaaMMdSwD
import Derived.Test.YtomaagmleafjeaaMW
import Derived.Test.YtomaagmleafjeaaMMdBr
set_option linter.unusedVariables false
set_option linter.unusedSimpArgs false
set_option linter.unusedVariables false
set_option maxRecDepth 100000
namespace Go.Proofs.Ytomaagmleafjeaa.Md
open Go Go.RowKit Sx Cn Dc Ck Vc

set_option maxHeartbeats 8000000 in
theorem verSw_eq (age now t : Int) (m : Mm) (l : El) (nc : Nat) : verSw age now t m l nc =
  V.br true
    (nN [(3, .lt2 0 1 0 1)]
    (V.br (decide (t < Int.ofNat 0))
    (nN [(6, .lt2 0 1 0 1)]
    (V.need (φSw age now t m (Re.mk (Int.ofNat 0) (Int.ofNat 0) (Int.ofNat 1) (Mm.mk (fun (e : Nat) => m.g e) m.lk m.lc m.lo m.ln m.ct) (El.mk l.n (Evs.mk (fun (i : Nat) => l.v.k i) (fun (i : Nat) => l.v.w i) (fun (i : Nat) => l.v.t i) (fun (i : Nat) => l.v.o i) fun (i : Nat) => l.v.l i))) ∧ l.n ≤ nc)
    (nN [(2, .eqI 0 0), (1, .eqI 1 1), (1, .pf (age = age) rfl), (1, .pf (l.n = l.n) rfl), (1, .pf (nc = nc) rfl), (1, .pf (m.lk = m.lk) rfl), (1, .pf (m.lc = m.lc) rfl), (1, .pf (m.lo = m.lo) rfl), (1, .pf (m.ln = m.ln) rfl), (1, .pf (m.ct = m.ct) rfl), (1, .eq 52 52), (1, .le 52 52), (1, .pf (∀ (e : Nat), e < 52 → m.g e = m.g e) (by intros; rfl)), (1, .pf (now = now) rfl), (1, .pf (nc = nc) rfl), (1, .pf (l.n ≤ l.n) (Nat.le_refl _)), (1, .pf (∀ (e : Nat), e < l.n → l.v.k e = l.v.k e) (by intros; rfl)), (1, .pf (∀ (e : Nat), e < l.n → l.v.w e = l.v.w e) (by intros; rfl)), (1, .pf (∀ (e : Nat), e < l.n → l.v.t e = l.v.t e) (by intros; rfl)), (1, .pf (∀ (e : Nat), e < l.n → l.v.o e = l.v.o e) (by intros; rfl)), (1, .pf (∀ (e : Nat), e < l.n → l.v.l e = l.v.l e) (by intros; rfl))] V.ok)))
    (nN [(7, .lt2 0 1 0 1)]
    (V.br (decide (t ≥ Int.ofNat 4))
    (nN [(6, .lt2 0 1 0 1)]
    (V.need (φSw age now t m (Re.mk (Int.ofNat 0) (Int.ofNat 0) (Int.ofNat 1) (Mm.mk (fun (e : Nat) => m.g e) m.lk m.lc m.lo m.ln m.ct) (El.mk l.n (Evs.mk (fun (i : Nat) => l.v.k i) (fun (i : Nat) => l.v.w i) (fun (i : Nat) => l.v.t i) (fun (i : Nat) => l.v.o i) fun (i : Nat) => l.v.l i))) ∧ l.n ≤ nc)
    (nN [(2, .eqI 0 0), (1, .eqI 1 1), (1, .pf (age = age) rfl), (1, .pf (l.n = l.n) rfl), (1, .pf (nc = nc) rfl), (1, .pf (m.lk = m.lk) rfl), (1, .pf (m.lc = m.lc) rfl), (1, .pf (m.lo = m.lo) rfl), (1, .pf (m.ln = m.ln) rfl), (1, .pf (m.ct = m.ct) rfl), (1, .eq 52 52), (1, .le 52 52), (1, .pf (∀ (e : Nat), e < 52 → m.g e = m.g e) (by intros; rfl)), (1, .pf (now = now) rfl), (1, .pf (nc = nc) rfl), (1, .pf (l.n ≤ l.n) (Nat.le_refl _)), (1, .pf (∀ (e : Nat), e < l.n → l.v.k e = l.v.k e) (by intros; rfl)), (1, .pf (∀ (e : Nat), e < l.n → l.v.w e = l.v.w e) (by intros; rfl)), (1, .pf (∀ (e : Nat), e < l.n → l.v.t e = l.v.t e) (by intros; rfl)), (1, .pf (∀ (e : Nat), e < l.n → l.v.o e = l.v.o e) (by intros; rfl)), (1, .pf (∀ (e : Nat), e < l.n → l.v.l e = l.v.l e) (by intros; rfl))] V.ok)))
    (nN [(4, .lt2 0 1 0 1)]
    (V.br (age == Int.ofNat 0)
    (nN [(6, .lt2 0 1 0 1)]
    (V.need (φSw age now t m (Re.mk (Int.ofNat 0) (Int.ofNat 0) (Int.ofNat 1) (Mm.mk (fun (e : Nat) => m.g e) m.lk m.lc m.lo m.ln m.ct) (El.mk l.n (Evs.mk (fun (i : Nat) => l.v.k i) (fun (i : Nat) => l.v.w i) (fun (i : Nat) => l.v.t i) (fun (i : Nat) => l.v.o i) fun (i : Nat) => l.v.l i))) ∧ l.n ≤ nc)
    (nN [(2, .eqI 0 0), (1, .eqI 1 1), (1, .pf (age = age) rfl), (1, .pf (l.n = l.n) rfl), (1, .pf (nc = nc) rfl), (1, .pf (m.lk = m.lk) rfl), (1, .pf (m.lc = m.lc) rfl), (1, .pf (m.lo = m.lo) rfl), (1, .pf (m.ln = m.ln) rfl), (1, .pf (m.ct = m.ct) rfl), (1, .eq 52 52), (1, .le 52 52), (1, .pf (∀ (e : Nat), e < 52 → m.g e = m.g e) (by intros; rfl)), (1, .pf (now = now) rfl), (1, .pf (nc = nc) rfl), (1, .pf (l.n ≤ l.n) (Nat.le_refl _)), (1, .pf (∀ (e : Nat), e < l.n → l.v.k e = l.v.k e) (by intros; rfl)), (1, .pf (∀ (e : Nat), e < l.n → l.v.w e = l.v.w e) (by intros; rfl)), (1, .pf (∀ (e : Nat), e < l.n → l.v.t e = l.v.t e) (by intros; rfl)), (1, .pf (∀ (e : Nat), e < l.n → l.v.o e = l.v.o e) (by intros; rfl)), (1, .pf (∀ (e : Nat), e < l.n → l.v.l e = l.v.l e) (by intros; rfl))] V.ok)))
    (nN [(19, .lt2 0 1 0 1), (1, .pf (t = t) rfl), (1, .eqI 4 4), (1, .eqI 32 32), (1, .eqI 5 5)]
    (V.need (okAt t (Int.ofNat 4) (Int.ofNat 32) (Int.ofNat 5))
    (nN [(1, .pf (∃ (x : Int), x = Int.ofNat 32 + t * Int.ofNat 5) ⟨_, rfl⟩)]
    (V.any Int (fun (r : Int) => r = Int.ofNat 32 + t * Int.ofNat 5) fun (x : Int) => nN [(1, .pf (x = x) rfl), (1, .pf (m.lk = m.lk) rfl), (1, .pf (m.lc = m.lc) rfl), (1, .pf (m.lo = m.lo) rfl), (1, .pf (m.ln = m.ln) rfl), (1, .pf (m.ct = m.ct) rfl), (1, .eq 52 52), (1, .le 52 52), (1, .pf (∀ (e : Nat), e < 52 → m.g e = m.g e) (by intros; rfl)), (1, .pf (∃ (x_1 : Mm), x_1 = (Mm.mk (fun (e : Nat) => m.g e) m.lk m.lc m.lo m.ln m.ct).acc 52 (Int.ofNat 1) x ((Mm.mk (fun (e : Nat) => m.g e) m.lk m.lc m.lo m.ln m.ct).val 52 x)) ⟨_, rfl⟩)]
    (V.any Mm (fun (m' : Mm) => m' = (Mm.mk (fun (e : Nat) => m.g e) m.lk m.lc m.lo m.ln m.ct).acc 52 (Int.ofNat 1) x ((Mm.mk (fun (e : Nat) => m.g e) m.lk m.lc m.lo m.ln m.ct).val 52 x)) fun (x_1 : Mm) => nN [(1, .pf (∃ (x_2 : Int), x_2 = (Mm.mk (fun (e : Nat) => m.g e) m.lk m.lc m.lo m.ln m.ct).val 52 x) ⟨_, rfl⟩)]
    (V.any Int (fun (v : Int) => v = (Mm.mk (fun (e : Nat) => m.g e) m.lk m.lc m.lo m.ln m.ct).val 52 x) fun (x : Int) => V.br (x != Int.ofNat 1)
    (nN [(6, .lt2 0 1 0 1)]
    (V.need (φSw age now t m (Re.mk (Int.ofNat 0) (Int.ofNat 0) (Int.ofNat 1) (Mm.mk (fun (e : Nat) => x_1.g e) x_1.lk x_1.lc x_1.lo x_1.ln x_1.ct) (El.mk l.n (Evs.mk (fun (i : Nat) => l.v.k i) (fun (i : Nat) => l.v.w i) (fun (i : Nat) => l.v.t i) (fun (i : Nat) => l.v.o i) fun (i : Nat) => l.v.l i))) ∧ l.n ≤ nc)
    (nN [(2, .eqI 0 0), (1, .eqI 1 1), (1, .pf (age = age) rfl), (1, .pf (l.n = l.n) rfl), (1, .pf (nc = nc) rfl), (1, .pf (x_1.lk = x_1.lk) rfl), (1, .pf (x_1.lc = x_1.lc) rfl), (1, .pf (x_1.lo = x_1.lo) rfl), (1, .pf (x_1.ln = x_1.ln) rfl), (1, .pf (x_1.ct = x_1.ct) rfl), (1, .eq 52 52), (1, .le 52 52), (1, .pf (∀ (e : Nat), e < 52 → x_1.g e = x_1.g e) (by intros; rfl)), (1, .pf (now = now) rfl), (1, .pf (nc = nc) rfl), (1, .pf (l.n ≤ l.n) (Nat.le_refl _)), (1, .pf (∀ (e : Nat), e < l.n → l.v.k e = l.v.k e) (by intros; rfl)), (1, .pf (∀ (e : Nat), e < l.n → l.v.w e = l.v.w e) (by intros; rfl)), (1, .pf (∀ (e : Nat), e < l.n → l.v.t e = l.v.t e) (by intros; rfl)), (1, .pf (∀ (e : Nat), e < l.n → l.v.o e = l.v.o e) (by intros; rfl)), (1, .pf (∀ (e : Nat), e < l.n → l.v.l e = l.v.l e) (by intros; rfl))] V.ok)))
    (V.br true
    (nN [(19, .lt2 0 1 0 1), (1, .pf (t = t) rfl), (1, .eqI 4 4), (1, .eqI 36 36), (1, .eqI 5 5)]
    (V.need (okAt t (Int.ofNat 4) (Int.ofNat 36) (Int.ofNat 5))
    (nN [(1, .pf (∃ (x : Int), x = Int.ofNat 36 + t * Int.ofNat 5) ⟨_, rfl⟩)]
    (V.any Int (fun (r : Int) => r = Int.ofNat 36 + t * Int.ofNat 5) fun (x : Int) => nN [(1, .pf (x = x) rfl), (1, .pf (x_1.lk = x_1.lk) rfl), (1, .pf (x_1.lc = x_1.lc) rfl), (1, .pf (x_1.lo = x_1.lo) rfl), (1, .pf (x_1.ln = x_1.ln) rfl), (1, .pf (x_1.ct = x_1.ct) rfl), (1, .eq 52 52), (1, .le 52 52), (1, .pf (∀ (e : Nat), e < 52 → x_1.g e = x_1.g e) (by intros; rfl)), (1, .pf (∃ (x_2 : Mm), x_2 = (Mm.mk (fun (e : Nat) => x_1.g e) x_1.lk x_1.lc x_1.lo x_1.ln x_1.ct).acc 52 (Int.ofNat 1) x ((Mm.mk (fun (e : Nat) => x_1.g e) x_1.lk x_1.lc x_1.lo x_1.ln x_1.ct).val 52 x)) ⟨_, rfl⟩)]
    (V.any Mm (fun (m' : Mm) => m' = (Mm.mk (fun (e : Nat) => x_1.g e) x_1.lk x_1.lc x_1.lo x_1.ln x_1.ct).acc 52 (Int.ofNat 1) x ((Mm.mk (fun (e : Nat) => x_1.g e) x_1.lk x_1.lc x_1.lo x_1.ln x_1.ct).val 52 x)) fun (x_2 : Mm) => nN [(1, .pf (∃ (x_3 : Int), x_3 = (Mm.mk (fun (e : Nat) => x_1.g e) x_1.lk x_1.lc x_1.lo x_1.ln x_1.ct).val 52 x) ⟨_, rfl⟩)]
    (V.any Int (fun (v : Int) => v = (Mm.mk (fun (e : Nat) => x_1.g e) x_1.lk x_1.lc x_1.lo x_1.ln x_1.ct).val 52 x) fun (x : Int) => nN [(10, .lt2 0 1 0 1)]
    (V.br (decide (IntKind.i64.wrap (now - IntKind.i64.wrap x) < age))
    (nN [(6, .lt2 0 1 0 1)]
    (V.need (φSw age now t m (Re.mk (Int.ofNat 0) (Int.ofNat 0) (Int.ofNat 2) (Mm.mk (fun (e : Nat) => x_2.g e) x_2.lk x_2.lc x_2.lo x_2.ln x_2.ct) (El.mk l.n (Evs.mk (fun (i : Nat) => l.v.k i) (fun (i : Nat) => l.v.w i) (fun (i : Nat) => l.v.t i) (fun (i : Nat) => l.v.o i) fun (i : Nat) => l.v.l i))) ∧ l.n ≤ nc)
    (nN [(2, .eqI 0 0), (1, .eqI 2 2), (1, .pf (age = age) rfl), (1, .pf (l.n = l.n) rfl), (1, .pf (nc = nc) rfl), (1, .pf (x_2.lk = x_2.lk) rfl), (1, .pf (x_2.lc = x_2.lc) rfl), (1, .pf (x_2.lo = x_2.lo) rfl), (1, .pf (x_2.ln = x_2.ln) rfl), (1, .pf (x_2.ct = x_2.ct) rfl), (1, .eq 52 52), (1, .le 52 52), (1, .pf (∀ (e : Nat), e < 52 → x_2.g e = x_2.g e) (by intros; rfl)), (1, .pf (now = now) rfl), (1, .pf (nc = nc) rfl), (1, .pf (l.n ≤ l.n) (Nat.le_refl _)), (1, .pf (∀ (e : Nat), e < l.n → l.v.k e = l.v.k e) (by intros; rfl)), (1, .pf (∀ (e : Nat), e < l.n → l.v.w e = l.v.w e) (by intros; rfl)), (1, .pf (∀ (e : Nat), e < l.n → l.v.t e = l.v.t e) (by intros; rfl)), (1, .pf (∀ (e : Nat), e < l.n → l.v.o e = l.v.o e) (by intros; rfl)), (1, .pf (∀ (e : Nat), e < l.n → l.v.l e = l.v.l e) (by intros; rfl))] V.ok)))
    (V.br true
    (nN [(19, .lt2 0 1 0 1), (1, .pf (t = t) rfl), (1, .eqI 4 4), (1, .eqI 33 33), (1, .eqI 5 5)]
    (V.need (okAt t (Int.ofNat 4) (Int.ofNat 33) (Int.ofNat 5))
    (nN [(1, .pf (∃ (x : Int), x = Int.ofNat 33 + t * Int.ofNat 5) ⟨_, rfl⟩)]
    (V.any Int (fun (r : Int) => r = Int.ofNat 33 + t * Int.ofNat 5) fun (x : Int) => nN [(1, .pf (x = x) rfl), (1, .pf (x_2.lk = x_2.lk) rfl), (1, .pf (x_2.lc = x_2.lc) rfl), (1, .pf (x_2.lo = x_2.lo) rfl), (1, .pf (x_2.ln = x_2.ln) rfl), (1, .pf (x_2.ct = x_2.ct) rfl), (1, .eq 52 52), (1, .le 52 52), (1, .pf (∀ (e : Nat), e < 52 → x_2.g e = x_2.g e) (by intros; rfl)), (1, .pf (∃ (x_3 : Mm), x_3 = (Mm.mk (fun (e : Nat) => x_2.g e) x_2.lk x_2.lc x_2.lo x_2.ln x_2.ct).acc 52 (Int.ofNat 1) x ((Mm.mk (fun (e : Nat) => x_2.g e) x_2.lk x_2.lc x_2.lo x_2.ln x_2.ct).val 52 x)) ⟨_, rfl⟩)]
    (V.any Mm (fun (m' : Mm) => m' = (Mm.mk (fun (e : Nat) => x_2.g e) x_2.lk x_2.lc x_2.lo x_2.ln x_2.ct).acc 52 (Int.ofNat 1) x ((Mm.mk (fun (e : Nat) => x_2.g e) x_2.lk x_2.lc x_2.lo x_2.ln x_2.ct).val 52 x)) fun (x_3 : Mm) => nN [(1, .pf (∃ (x_4 : Int), x_4 = (Mm.mk (fun (e : Nat) => x_2.g e) x_2.lk x_2.lc x_2.lo x_2.ln x_2.ct).val 52 x) ⟨_, rfl⟩)]
    (V.any Int (fun (v : Int) => v = (Mm.mk (fun (e : Nat) => x_2.g e) x_2.lk x_2.lc x_2.lo x_2.ln x_2.ct).val 52 x) fun (x : Int) => nN [(9, .lt2 0 1 0 1)]
    (V.br (decide (IntKind.i64.wrap x ≥ Int.ofNat 3))
    (nN [(6, .lt2 0 1 0 1)]
    (V.need (φSw age now t m (Re.mk (Int.ofNat 0) (Int.ofNat 0) (Int.ofNat 3) (Mm.mk (fun (e : Nat) => x_3.g e) x_3.lk x_3.lc x_3.lo x_3.ln x_3.ct) (El.mk l.n (Evs.mk (fun (i : Nat) => l.v.k i) (fun (i : Nat) => l.v.w i) (fun (i : Nat) => l.v.t i) (fun (i : Nat) => l.v.o i) fun (i : Nat) => l.v.l i))) ∧ l.n ≤ nc)
    (nN [(2, .eqI 0 0), (1, .eqI 3 3), (1, .pf (age = age) rfl), (1, .pf (l.n = l.n) rfl), (1, .pf (nc = nc) rfl), (1, .pf (x_3.lk = x_3.lk) rfl), (1, .pf (x_3.lc = x_3.lc) rfl), (1, .pf (x_3.lo = x_3.lo) rfl), (1, .pf (x_3.ln = x_3.ln) rfl), (1, .pf (x_3.ct = x_3.ct) rfl), (1, .eq 52 52), (1, .le 52 52), (1, .pf (∀ (e : Nat), e < 52 → x_3.g e = x_3.g e) (by intros; rfl)), (1, .pf (now = now) rfl), (1, .pf (nc = nc) rfl), (1, .pf (l.n ≤ l.n) (Nat.le_refl _)), (1, .pf (∀ (e : Nat), e < l.n → l.v.k e = l.v.k e) (by intros; rfl)), (1, .pf (∀ (e : Nat), e < l.n → l.v.w e = l.v.w e) (by intros; rfl)), (1, .pf (∀ (e : Nat), e < l.n → l.v.t e = l.v.t e) (by intros; rfl)), (1, .pf (∀ (e : Nat), e < l.n → l.v.o e = l.v.o e) (by intros; rfl)), (1, .pf (∀ (e : Nat), e < l.n → l.v.l e = l.v.l e) (by intros; rfl))] V.ok)))
    (V.br true
    (nN [(19, .lt2 0 1 0 1), (1, .pf (t = t) rfl), (1, .eqI 4 4), (1, .eqI 33 33), (1, .eqI 5 5)]
    (V.need (okAt t (Int.ofNat 4) (Int.ofNat 33) (Int.ofNat 5))
    (nN [(1, .pf (∃ (x : Int), x = Int.ofNat 33 + t * Int.ofNat 5) ⟨_, rfl⟩)]
    (V.any Int (fun (r : Int) => r = Int.ofNat 33 + t * Int.ofNat 5) fun (x_4 : Int) => nN [(6, .lt2 0 1 0 1), (1, .pf (x_4 = x_4) rfl), (1, .pf (x = x) rfl), (1, .pf (IntKind.u64.wrap (x + Int.ofNat 1) = IntKind.u64.wrap (x + Int.ofNat 1)) rfl), (1, .pf (x_3.lk = x_3.lk) rfl), (1, .pf (x_3.lc = x_3.lc) rfl), (1, .pf (x_3.lo = x_3.lo) rfl), (1, .pf (x_3.ln = x_3.ln) rfl), (1, .pf (x_3.ct = x_3.ct) rfl), (1, .eq 52 52), (1, .le 52 52), (1, .pf (∀ (e : Nat), e < 52 → x_3.g e = x_3.g e) (by intros; rfl)), (1, .pf (∃ (x_5 : Mm), x_5 = (Mm.mk (fun (e : Nat) => x_3.g e) x_3.lk x_3.lc x_3.lo x_3.ln x_3.ct).acc 52 (Int.ofNat 3) x_4 (casV ((Mm.mk (fun (e : Nat) => x_3.g e) x_3.lk x_3.lc x_3.lo x_3.ln x_3.ct).hit 52 x_4 x) ((Mm.mk (fun (e : Nat) => x_3.g e) x_3.lk x_3.lc x_3.lo x_3.ln x_3.ct).val 52 x_4) (IntKind.u64.wrap (x + Int.ofNat 1)))) ⟨_, rfl⟩)]
    (V.any Mm (fun (m' : Mm) => m' = (Mm.mk (fun (e : Nat) => x_3.g e) x_3.lk x_3.lc x_3.lo x_3.ln x_3.ct).acc 52 (Int.ofNat 3) x_4 (casV ((Mm.mk (fun (e : Nat) => x_3.g e) x_3.lk x_3.lc x_3.lo x_3.ln x_3.ct).hit 52 x_4 x) ((Mm.mk (fun (e : Nat) => x_3.g e) x_3.lk x_3.lc x_3.lo x_3.ln x_3.ct).val 52 x_4) (IntKind.u64.wrap (x + Int.ofNat 1)))) fun (x_5 : Mm) => nN [(1, .pf (∃ (x_6 : Bool), x_6 = (Mm.mk (fun (e : Nat) => x_3.g e) x_3.lk x_3.lc x_3.lo x_3.ln x_3.ct).hit 52 x_4 x) ⟨_, rfl⟩)]
    (V.any Bool (fun (v : Bool) => v = (Mm.mk (fun (e : Nat) => x_3.g e) x_3.lk x_3.lc x_3.lo x_3.ln x_3.ct).hit 52 x_4 x) fun (x_6 : Bool) => V.br (!x_6)
    (nN [(6, .lt2 0 1 0 1)]
    (V.need (φSw age now t m (Re.mk (Int.ofNat 4) (Int.ofNat 0) (Int.ofNat 4) (Mm.mk (fun (e : Nat) => x_5.g e) x_5.lk x_5.lc x_5.lo x_5.ln x_5.ct) (El.mk l.n (Evs.mk (fun (i : Nat) => l.v.k i) (fun (i : Nat) => l.v.w i) (fun (i : Nat) => l.v.t i) (fun (i : Nat) => l.v.o i) fun (i : Nat) => l.v.l i))) ∧ l.n ≤ nc)
    (nN [(1, .eqI 4 4), (1, .eqI 0 0), (1, .eqI 4 4), (1, .pf (age = age) rfl), (1, .pf (l.n = l.n) rfl), (1, .pf (nc = nc) rfl), (1, .pf (x_5.lk = x_5.lk) rfl), (1, .pf (x_5.lc = x_5.lc) rfl), (1, .pf (x_5.lo = x_5.lo) rfl), (1, .pf (x_5.ln = x_5.ln) rfl), (1, .pf (x_5.ct = x_5.ct) rfl), (1, .eq 52 52), (1, .le 52 52), (1, .pf (∀ (e : Nat), e < 52 → x_5.g e = x_5.g e) (by intros; rfl)), (1, .pf (now = now) rfl), (1, .pf (nc = nc) rfl), (1, .pf (l.n ≤ l.n) (Nat.le_refl _)), (1, .pf (∀ (e : Nat), e < l.n → l.v.k e = l.v.k e) (by intros; rfl)), (1, .pf (∀ (e : Nat), e < l.n → l.v.w e = l.v.w e) (by intros; rfl)), (1, .pf (∀ (e : Nat), e < l.n → l.v.t e = l.v.t e) (by intros; rfl)), (1, .pf (∀ (e : Nat), e < l.n → l.v.o e = l.v.o e) (by intros; rfl)), (1, .pf (∀ (e : Nat), e < l.n → l.v.l e = l.v.l e) (by intros; rfl))] V.ok)))
    (nN [(22, .lt2 0 1 0 1)]
    (V.need (l.n ≤ l.n ∧ nc = nc)
    (V.need (l.n + 1 ≤ 9223372036854775807 ∧ (l.n + 1) * 40 ≤ 140737488355328)
    (V.any Nat (fun (x : Nat) => l.n + 1 ≤ x) fun (x_7 : Nat) => nN [(2, .lt2 0 1 0 1)]
    (V.br true
    (nN [(19, .lt2 0 1 0 1), (1, .pf (t = t) rfl), (1, .eqI 4 4), (1, .eqI 36 36), (1, .eqI 5 5)]
    (V.need (okAt t (Int.ofNat 4) (Int.ofNat 36) (Int.ofNat 5))
    (nN [(1, .pf (∃ (x : Int), x = Int.ofNat 36 + t * Int.ofNat 5) ⟨_, rfl⟩)]
    (V.any Int (fun (r : Int) => r = Int.ofNat 36 + t * Int.ofNat 5) fun (x_8 : Int) => nN [(6, .lt2 0 1 0 1), (1, .pf (x_8 = x_8) rfl), (1, .pf (IntKind.u64.wrap now = IntKind.u64.wrap now) rfl), (1, .pf (x_5.lk = x_5.lk) rfl), (1, .pf (x_5.lc = x_5.lc) rfl), (1, .pf (x_5.lo = x_5.lo) rfl), (1, .pf (x_5.ln = x_5.ln) rfl), (1, .pf (x_5.ct = x_5.ct) rfl), (1, .eq 52 52), (1, .le 52 52), (1, .pf (∀ (e : Nat), e < 52 → x_5.g e = x_5.g e) (by intros; rfl)), (1, .pf (∃ (x : Mm), x = (Mm.mk (fun (e : Nat) => x_5.g e) x_5.lk x_5.lc x_5.lo x_5.ln x_5.ct).acc 52 (Int.ofNat 2) x_8 (IntKind.u64.wrap now)) ⟨_, rfl⟩)]
    (V.any Mm (fun (m' : Mm) => m' = (Mm.mk (fun (e : Nat) => x_5.g e) x_5.lk x_5.lc x_5.lo x_5.ln x_5.ct).acc 52 (Int.ofNat 2) x_8 (IntKind.u64.wrap now)) fun (x_9 : Mm) => nN [(11, .lt2 0 1 0 1)]
    (V.br true
    (nN [(19, .lt2 0 1 0 1), (1, .eqI 1 1), (1, .eqI 4 4), (1, .eqI 1 1), (2, .eqI 4 4), (1, .eqI 1 1), (1, .eqI 5 5), (1, .eqI 6 6), (1, .eqI 7 7), (1, .eqI 8 8), (1, .eqI 32 32), (1, .eqI 0 0), (1, .pf (IntKind.i64.wrap (IntKind.i64.wrap x + Int.ofNat 1) = IntKind.i64.wrap (IntKind.i64.wrap x + Int.ofNat 1)) rfl)]
    (V.need (okQ (Ly.mk (Int.ofNat 1) (Int.ofNat 4) (Int.ofNat 1) (Int.ofNat 4) (Int.ofNat 4) (Int.ofNat 1) (Int.ofNat 5) (Int.ofNat 6) (Int.ofNat 7) (Int.ofNat 8) (Int.ofNat 32)) (Int.ofNat 0) (IntKind.i64.wrap (IntKind.i64.wrap x + Int.ofNat 1)))
    (nN [(1, .pf (∃ (x_10 : Int), x_10 = Int.ofNat 8 + Int.ofNat 0 * (Int.ofNat 4 * (Int.ofNat 2 + Int.ofNat 4)) + IntKind.i64.wrap (IntKind.i64.wrap x + Int.ofNat 1) * (Int.ofNat 2 + Int.ofNat 4)) ⟨_, rfl⟩)]
    (V.any Int (fun (T : Int) => T = Int.ofNat 8 + Int.ofNat 0 * (Int.ofNat 4 * (Int.ofNat 2 + Int.ofNat 4)) + IntKind.i64.wrap (IntKind.i64.wrap x + Int.ofNat 1) * (Int.ofNat 2 + Int.ofNat 4)) fun (x_10 : Int) => nN [(12, .lt2 0 1 0 1), (1, .pf (x_10 + Int.ofNat 1 = x_10 + Int.ofNat 1) rfl), (1, .pf (x_9.lk = x_9.lk) rfl), (1, .pf (x_9.lc = x_9.lc) rfl), (1, .pf (x_9.lo = x_9.lo) rfl), (1, .pf (x_9.ln = x_9.ln) rfl), (1, .pf (x_9.ct = x_9.ct) rfl), (1, .eq 52 52), (1, .le 52 52), (1, .pf (∀ (e : Nat), e < 52 → x_9.g e = x_9.g e) (by intros; rfl)), (1, .pf (∃ (x : Mm), x = (Mm.mk (fun (e : Nat) => x_9.g e) x_9.lk x_9.lc x_9.lo x_9.ln x_9.ct).acc 52 (Int.ofNat 1) (x_10 + Int.ofNat 1) ((Mm.mk (fun (e : Nat) => x_9.g e) x_9.lk x_9.lc x_9.lo x_9.ln x_9.ct).val 52 (x_10 + Int.ofNat 1))) ⟨_, rfl⟩)]
    (V.any Mm (fun (m' : Mm) => m' = (Mm.mk (fun (e : Nat) => x_9.g e) x_9.lk x_9.lc x_9.lo x_9.ln x_9.ct).acc 52 (Int.ofNat 1) (x_10 + Int.ofNat 1) ((Mm.mk (fun (e : Nat) => x_9.g e) x_9.lk x_9.lc x_9.lo x_9.ln x_9.ct).val 52 (x_10 + Int.ofNat 1))) fun (x_11 : Mm) => nN [(1, .pf (∃ (x : Int), x = (Mm.mk (fun (e : Nat) => x_9.g e) x_9.lk x_9.lc x_9.lo x_9.ln x_9.ct).val 52 (x_10 + Int.ofNat 1)) ⟨_, rfl⟩)]
    (V.any Int (fun (v : Int) => v = (Mm.mk (fun (e : Nat) => x_9.g e) x_9.lk x_9.lc x_9.lo x_9.ln x_9.ct).val 52 (x_10 + Int.ofNat 1)) fun (x_12 : Int) => nN [(2, .lt2 0 1 0 1)]
    (V.br true
    (nN [(7, .lt2 0 1 0 1), (1, .pf (x_10 = x_10) rfl), (1, .pf (x_11.lk = x_11.lk) rfl), (1, .pf (x_11.lc = x_11.lc) rfl), (1, .pf (x_11.lo = x_11.lo) rfl), (1, .pf (x_11.ln = x_11.ln) rfl), (1, .pf (x_11.ct = x_11.ct) rfl), (1, .eq 52 52), (1, .le 52 52), (1, .pf (∀ (e : Nat), e < 52 → x_11.g e = x_11.g e) (by intros; rfl)), (1, .pf (∃ (x : Mm), x = (Mm.mk (fun (e : Nat) => x_11.g e) x_11.lk x_11.lc x_11.lo x_11.ln x_11.ct).acc 52 (Int.ofNat 1) x_10 ((Mm.mk (fun (e : Nat) => x_11.g e) x_11.lk x_11.lc x_11.lo x_11.ln x_11.ct).val 52 x_10)) ⟨_, rfl⟩)]
    (V.any Mm (fun (m' : Mm) => m' = (Mm.mk (fun (e : Nat) => x_11.g e) x_11.lk x_11.lc x_11.lo x_11.ln x_11.ct).acc 52 (Int.ofNat 1) x_10 ((Mm.mk (fun (e : Nat) => x_11.g e) x_11.lk x_11.lc x_11.lo x_11.ln x_11.ct).val 52 x_10)) fun (x_13 : Mm) => nN [(1, .pf (∃ (x : Int), x = (Mm.mk (fun (e : Nat) => x_11.g e) x_11.lk x_11.lc x_11.lo x_11.ln x_11.ct).val 52 x_10) ⟨_, rfl⟩)]
    (V.any Int (fun (v : Int) => v = (Mm.mk (fun (e : Nat) => x_11.g e) x_11.lk x_11.lc x_11.lo x_11.ln x_11.ct).val 52 x_10) fun (x_14 : Int) => nN [(7, .lt2 0 1 0 1)]
    (V.br (decide (IntKind.i64.wrap (IntKind.u64.wrap (x_12 - x_14)) ≥ Int.ofNat 4))
    (nN [(34, .lt2 0 1 0 1)]
    (V.need (l.n + 1 ≤ l.n + 1 ∧ x_7 = x_7)
    (V.need (l.n + 1 + 1 ≤ 9223372036854775807 ∧ (l.n + 1 + 1) * 40 ≤ 140737488355328)
    (V.any Nat (fun (x : Nat) => l.n + 1 + 1 ≤ x) fun (x_15 : Nat) => nN [(8, .lt2 0 1 0 1)]
    (V.need (φSw age now t m (Re.mk (Int.ofNat 1) (Int.ofNat 0) (Int.ofNat 7) (Mm.mk (fun (e : Nat) => x_13.g e) x_13.lk x_13.lc x_13.lo x_13.ln x_13.ct) (El.mk (l.n + 1 + 1) (Evs.mk (fun (i : Nat) => if 0 = 0 ∧ i = l.n + 1 then Int.ofNat 19 else if 0 = 0 ∧ i = l.n then Int.ofNat 12 else l.v.k i) (fun (i : Nat) => if 0 = 0 ∧ i = l.n + 1 then Int.ofNat 0 else if 0 = 0 ∧ i = l.n then Int.ofNat 0 else l.v.w i) (fun (i : Nat) => if 0 = 0 ∧ i = l.n + 1 then t else if 0 = 0 ∧ i = l.n then t else l.v.t i) (fun (i : Nat) => if 0 = 0 ∧ i = l.n + 1 then Int.ofNat 0 else if 0 = 0 ∧ i = l.n then Int.ofNat 0 else l.v.o i) fun (i : Nat) => if 0 = 0 ∧ i = l.n + 1 then IntKind.i64.wrap (IntKind.i64.wrap x + Int.ofNat 1) else if 0 = 0 ∧ i = l.n then IntKind.i64.wrap (IntKind.i64.wrap x + Int.ofNat 1) else l.v.l i))) ∧ l.n + 1 + 1 ≤ x_15)
    (nN [(1, .eqI 1 1), (1, .eqI 0 0), (1, .eqI 7 7), (1, .pf (age = age) rfl), (1, .pf (l.n + 1 + 1 = l.n + 1 + 1) rfl), (1, .pf (x_15 = x_15) rfl), (1, .pf (x_13.lk = x_13.lk) rfl), (1, .pf (x_13.lc = x_13.lc) rfl), (1, .pf (x_13.lo = x_13.lo) rfl), (1, .pf (x_13.ln = x_13.ln) rfl), (1, .pf (x_13.ct = x_13.ct) rfl), (1, .eq 52 52), (1, .le 52 52), (1, .pf (∀ (e : Nat), e < 52 → x_13.g e = x_13.g e) (by intros; rfl)), (1, .pf (now = now) rfl), (1, .pf (x_15 = x_15) rfl)]
    (V.need (l.n + 1 + 1 ≤ l.n + 1 + 1)
    (V.need (∀ (e : Nat), e < l.n + 1 + 1 → (if 0 = 0 ∧ e = l.n + 1 then Int.ofNat 19 else if 0 = 0 ∧ e = l.n then Int.ofNat 12 else l.v.k e) = if 0 = 0 ∧ e = l.n + 1 then Int.ofNat 19 else if 0 = 0 ∧ e = l.n then Int.ofNat 12 else l.v.k e)
    (V.need (∀ (e : Nat), e < l.n + 1 + 1 → (if 0 = 0 ∧ e = l.n + 1 then Int.ofNat 0 else if 0 = 0 ∧ e = l.n then Int.ofNat 0 else l.v.w e) = if 0 = 0 ∧ e = l.n + 1 then Int.ofNat 0 else if 0 = 0 ∧ e = l.n then Int.ofNat 0 else l.v.w e)
    (V.need (∀ (e : Nat), e < l.n + 1 + 1 → (if 0 = 0 ∧ e = l.n + 1 then t else if 0 = 0 ∧ e = l.n then t else l.v.t e) = if 0 = 0 ∧ e = l.n + 1 then t else if 0 = 0 ∧ e = l.n then t else l.v.t e)
    (V.need (∀ (e : Nat), e < l.n + 1 + 1 → (if 0 = 0 ∧ e = l.n + 1 then Int.ofNat 0 else if 0 = 0 ∧ e = l.n then Int.ofNat 0 else l.v.o e) = if 0 = 0 ∧ e = l.n + 1 then Int.ofNat 0 else if 0 = 0 ∧ e = l.n then Int.ofNat 0 else l.v.o e)
    (V.need (∀ (e : Nat), e < l.n + 1 + 1 → (if 0 = 0 ∧ e = l.n + 1 then IntKind.i64.wrap (IntKind.i64.wrap x + Int.ofNat 1) else if 0 = 0 ∧ e = l.n then IntKind.i64.wrap (IntKind.i64.wrap x + Int.ofNat 1) else l.v.l e) = if 0 = 0 ∧ e = l.n + 1 then IntKind.i64.wrap (IntKind.i64.wrap x + Int.ofNat 1) else if 0 = 0 ∧ e = l.n then IntKind.i64.wrap (IntKind.i64.wrap x + Int.ofNat 1) else l.v.l e) V.ok))))))))))))
    (V.br true
    (nN [(12, .lt2 0 1 0 1)]
    (V.br false
    (nN [(3, .lt2 0 1 0 1), (1, .pf (Int.negSucc 0 = Int.negSucc 0) rfl), (1, .pf (IntKind.u64.wrap t = IntKind.u64.wrap t) rfl), (1, .pf (x_13.lk = x_13.lk) rfl), (1, .pf (x_13.lc = x_13.lc) rfl), (1, .pf (x_13.lo = x_13.lo) rfl), (1, .pf (x_13.ln = x_13.ln) rfl), (1, .pf (x_13.ct = x_13.ct) rfl), (1, .eq 52 52), (1, .le 52 52), (1, .pf (∀ (e : Nat), e < 52 → x_13.g e = x_13.g e) (by intros; rfl)), (1, .pf (∃ (x : Mm), x = (Mm.mk (fun (e : Nat) => x_13.g e) x_13.lk x_13.lc x_13.lo x_13.ln x_13.ct).acc 52 (Int.ofNat 2) (Int.negSucc 0) (IntKind.u64.wrap t)) ⟨_, rfl⟩)]
    (V.any Mm (fun (m' : Mm) => m' = (Mm.mk (fun (e : Nat) => x_13.g e) x_13.lk x_13.lc x_13.lo x_13.ln x_13.ct).acc 52 (Int.ofNat 2) (Int.negSucc 0) (IntKind.u64.wrap t)) fun (x_15 : Mm) => V.br true
    (nN [(10, .lt2 0 1 0 1), (1, .pf (x_10 + Int.ofNat 1 = x_10 + Int.ofNat 1) rfl), (1, .pf (IntKind.u64.wrap (x_12 + Int.ofNat 1) = IntKind.u64.wrap (x_12 + Int.ofNat 1)) rfl), (1, .pf (x_15.lk = x_15.lk) rfl), (1, .pf (x_15.lc = x_15.lc) rfl), (1, .pf (x_15.lo = x_15.lo) rfl), (1, .pf (x_15.ln = x_15.ln) rfl), (1, .pf (x_15.ct = x_15.ct) rfl), (1, .eq 52 52), (1, .le 52 52), (1, .pf (∀ (e : Nat), e < 52 → x_15.g e = x_15.g e) (by intros; rfl)), (1, .pf (∃ (x : Mm), x = (Mm.mk (fun (e : Nat) => x_15.g e) x_15.lk x_15.lc x_15.lo x_15.ln x_15.ct).acc 52 (Int.ofNat 2) (x_10 + Int.ofNat 1) (IntKind.u64.wrap (x_12 + Int.ofNat 1))) ⟨_, rfl⟩)]
    (V.any Mm (fun (m' : Mm) => m' = (Mm.mk (fun (e : Nat) => x_15.g e) x_15.lk x_15.lc x_15.lo x_15.ln x_15.ct).acc 52 (Int.ofNat 2) (x_10 + Int.ofNat 1) (IntKind.u64.wrap (x_12 + Int.ofNat 1))) fun (x_16 : Mm) => nN [(29, .lt2 0 1 0 1)]
    (V.br true
    (nN [(9, .lt2 0 1 0 1)]
    (V.br (decide (IntKind.i64.wrap (IntKind.i64.wrap x + Int.ofNat 1) < Int.ofNat 0))
    (nN [(1, .eqI 7 7), (1, .eqI 0 0), (1, .pf (x_16.lk = x_16.lk) rfl), (1, .pf (x_16.lc = x_16.lc) rfl), (1, .pf (x_16.lo = x_16.lo) rfl), (1, .pf (x_16.ln = x_16.ln) rfl), (1, .pf (x_16.ct = x_16.ct) rfl), (1, .eq 52 52), (1, .le 52 52), (1, .pf (∀ (e : Nat), e < 52 → x_16.g e = x_16.g e) (by intros; rfl)), (1, .pf (∃ (x : Mm), x = (Mm.mk (fun (e : Nat) => x_16.g e) x_16.lk x_16.lc x_16.lo x_16.ln x_16.ct).acc 52 (Int.ofNat 4) (Int.ofNat 7) (bits BinOp.or IntKind.u64 ((Mm.mk (fun (e : Nat) => x_16.g e) x_16.lk x_16.lc x_16.lo x_16.ln x_16.ct).val 52 (Int.ofNat 7)) (Int.ofNat 0))) ⟨_, rfl⟩)]
    (V.any Mm (fun (m' : Mm) => m' = (Mm.mk (fun (e : Nat) => x_16.g e) x_16.lk x_16.lc x_16.lo x_16.ln x_16.ct).acc 52 (Int.ofNat 4) (Int.ofNat 7) (bits BinOp.or IntKind.u64 ((Mm.mk (fun (e : Nat) => x_16.g e) x_16.lk x_16.lc x_16.lo x_16.ln x_16.ct).val 52 (Int.ofNat 7)) (Int.ofNat 0))) fun (x_17 : Mm) => nN [(1, .pf (∃ (x : Int), x = (Mm.mk (fun (e : Nat) => x_16.g e) x_16.lk x_16.lc x_16.lo x_16.ln x_16.ct).val 52 (Int.ofNat 7)) ⟨_, rfl⟩)]
    (V.any Int (fun (v : Int) => v = (Mm.mk (fun (e : Nat) => x_16.g e) x_16.lk x_16.lc x_16.lo x_16.ln x_16.ct).val 52 (Int.ofNat 7)) fun (x_18 : Int) => nN [(18, .lt2 0 1 0 1)]
    (V.need (φSw age now t m (Re.mk (Int.ofNat 1) (Int.ofNat 0) (Int.ofNat 10) (Mm.mk (fun (e : Nat) => x_17.g e) x_17.lk x_17.lc x_17.lo x_17.ln x_17.ct) (El.mk (l.n + 1) (Evs.mk (fun (i : Nat) => if 0 = 0 ∧ i = l.n then Int.ofNat 12 else l.v.k i) (fun (i : Nat) => if 0 = 0 ∧ i = l.n then Int.ofNat 0 else l.v.w i) (fun (i : Nat) => if 0 = 0 ∧ i = l.n then t else l.v.t i) (fun (i : Nat) => if 0 = 0 ∧ i = l.n then Int.ofNat 0 else l.v.o i) fun (i : Nat) => if 0 = 0 ∧ i = l.n then IntKind.i64.wrap (IntKind.i64.wrap x + Int.ofNat 1) else l.v.l i))) ∧ l.n + 1 ≤ x_7)
    (nN [(1, .eqI 1 1), (1, .eqI 0 0), (1, .eqI 10 10), (1, .pf (age = age) rfl), (1, .pf (l.n + 1 = l.n + 1) rfl), (1, .pf (x_7 = x_7) rfl), (1, .pf (x_17.lk = x_17.lk) rfl), (1, .pf (x_17.lc = x_17.lc) rfl), (1, .pf (x_17.lo = x_17.lo) rfl), (1, .pf (x_17.ln = x_17.ln) rfl), (1, .pf (x_17.ct = x_17.ct) rfl), (1, .eq 52 52), (1, .le 52 52), (1, .pf (∀ (e : Nat), e < 52 → x_17.g e = x_17.g e) (by intros; rfl)), (1, .pf (now = now) rfl), (1, .pf (x_7 = x_7) rfl)]
    (V.need (l.n + 1 ≤ l.n + 1)
    (V.need (∀ (e : Nat), e < l.n + 1 → (if 0 = 0 ∧ e = l.n then Int.ofNat 12 else l.v.k e) = if 0 = 0 ∧ e = l.n then Int.ofNat 12 else l.v.k e)
    (V.need (∀ (e : Nat), e < l.n + 1 → (if 0 = 0 ∧ e = l.n then Int.ofNat 0 else l.v.w e) = if 0 = 0 ∧ e = l.n then Int.ofNat 0 else l.v.w e)
    (V.need (∀ (e : Nat), e < l.n + 1 → (if 0 = 0 ∧ e = l.n then t else l.v.t e) = if 0 = 0 ∧ e = l.n then t else l.v.t e)
    (V.need (∀ (e : Nat), e < l.n + 1 → (if 0 = 0 ∧ e = l.n then Int.ofNat 0 else l.v.o e) = if 0 = 0 ∧ e = l.n then Int.ofNat 0 else l.v.o e)
    (V.need (∀ (e : Nat), e < l.n + 1 → (if 0 = 0 ∧ e = l.n then IntKind.i64.wrap (IntKind.i64.wrap x + Int.ofNat 1) else l.v.l e) = if 0 = 0 ∧ e = l.n then IntKind.i64.wrap (IntKind.i64.wrap x + Int.ofNat 1) else l.v.l e) V.ok)))))))))))
    (V.br (decide (IntKind.i64.wrap (IntKind.i64.wrap x + Int.ofNat 1) > Int.ofNat 63))
    (nN [(1, .eqI 7 7), (1, .eqI 0 0), (1, .pf (x_16.lk = x_16.lk) rfl), (1, .pf (x_16.lc = x_16.lc) rfl), (1, .pf (x_16.lo = x_16.lo) rfl), (1, .pf (x_16.ln = x_16.ln) rfl), (1, .pf (x_16.ct = x_16.ct) rfl), (1, .eq 52 52), (1, .le 52 52), (1, .pf (∀ (e : Nat), e < 52 → x_16.g e = x_16.g e) (by intros; rfl)), (1, .pf (∃ (x : Mm), x = (Mm.mk (fun (e : Nat) => x_16.g e) x_16.lk x_16.lc x_16.lo x_16.ln x_16.ct).acc 52 (Int.ofNat 4) (Int.ofNat 7) (bits BinOp.or IntKind.u64 ((Mm.mk (fun (e : Nat) => x_16.g e) x_16.lk x_16.lc x_16.lo x_16.ln x_16.ct).val 52 (Int.ofNat 7)) (Int.ofNat 0))) ⟨_, rfl⟩)]
    (V.any Mm (fun (m' : Mm) => m' = (Mm.mk (fun (e : Nat) => x_16.g e) x_16.lk x_16.lc x_16.lo x_16.ln x_16.ct).acc 52 (Int.ofNat 4) (Int.ofNat 7) (bits BinOp.or IntKind.u64 ((Mm.mk (fun (e : Nat) => x_16.g e) x_16.lk x_16.lc x_16.lo x_16.ln x_16.ct).val 52 (Int.ofNat 7)) (Int.ofNat 0))) fun (x_17 : Mm) => nN [(1, .pf (∃ (x : Int), x = (Mm.mk (fun (e : Nat) => x_16.g e) x_16.lk x_16.lc x_16.lo x_16.ln x_16.ct).val 52 (Int.ofNat 7)) ⟨_, rfl⟩)]
    (V.any Int (fun (v : Int) => v = (Mm.mk (fun (e : Nat) => x_16.g e) x_16.lk x_16.lc x_16.lo x_16.ln x_16.ct).val 52 (Int.ofNat 7)) fun (x_18 : Int) => nN [(18, .lt2 0 1 0 1)]
    (V.need (φSw age now t m (Re.mk (Int.ofNat 1) (Int.ofNat 0) (Int.ofNat 10) (Mm.mk (fun (e : Nat) => x_17.g e) x_17.lk x_17.lc x_17.lo x_17.ln x_17.ct) (El.mk (l.n + 1) (Evs.mk (fun (i : Nat) => if 0 = 0 ∧ i = l.n then Int.ofNat 12 else l.v.k i) (fun (i : Nat) => if 0 = 0 ∧ i = l.n then Int.ofNat 0 else l.v.w i) (fun (i : Nat) => if 0 = 0 ∧ i = l.n then t else l.v.t i) (fun (i : Nat) => if 0 = 0 ∧ i = l.n then Int.ofNat 0 else l.v.o i) fun (i : Nat) => if 0 = 0 ∧ i = l.n then IntKind.i64.wrap (IntKind.i64.wrap x + Int.ofNat 1) else l.v.l i))) ∧ l.n + 1 ≤ x_7)
    (nN [(1, .eqI 1 1), (1, .eqI 0 0), (1, .eqI 10 10), (1, .pf (age = age) rfl), (1, .pf (l.n + 1 = l.n + 1) rfl), (1, .pf (x_7 = x_7) rfl), (1, .pf (x_17.lk = x_17.lk) rfl), (1, .pf (x_17.lc = x_17.lc) rfl), (1, .pf (x_17.lo = x_17.lo) rfl), (1, .pf (x_17.ln = x_17.ln) rfl), (1, .pf (x_17.ct = x_17.ct) rfl), (1, .eq 52 52), (1, .le 52 52), (1, .pf (∀ (e : Nat), e < 52 → x_17.g e = x_17.g e) (by intros; rfl)), (1, .pf (now = now) rfl), (1, .pf (x_7 = x_7) rfl)]
    (V.need (l.n + 1 ≤ l.n + 1)
    (V.need (∀ (e : Nat), e < l.n + 1 → (if 0 = 0 ∧ e = l.n then Int.ofNat 12 else l.v.k e) = if 0 = 0 ∧ e = l.n then Int.ofNat 12 else l.v.k e)
    (V.need (∀ (e : Nat), e < l.n + 1 → (if 0 = 0 ∧ e = l.n then Int.ofNat 0 else l.v.w e) = if 0 = 0 ∧ e = l.n then Int.ofNat 0 else l.v.w e)
    (V.need (∀ (e : Nat), e < l.n + 1 → (if 0 = 0 ∧ e = l.n then t else l.v.t e) = if 0 = 0 ∧ e = l.n then t else l.v.t e)
    (V.need (∀ (e : Nat), e < l.n + 1 → (if 0 = 0 ∧ e = l.n then Int.ofNat 0 else l.v.o e) = if 0 = 0 ∧ e = l.n then Int.ofNat 0 else l.v.o e)
    (V.need (∀ (e : Nat), e < l.n + 1 → (if 0 = 0 ∧ e = l.n then IntKind.i64.wrap (IntKind.i64.wrap x + Int.ofNat 1) else l.v.l e) = if 0 = 0 ∧ e = l.n then IntKind.i64.wrap (IntKind.i64.wrap x + Int.ofNat 1) else l.v.l e) V.ok)))))))))))
    (V.need (Int.ofNat 0 ≤ IntKind.u64.wrap (IntKind.i64.wrap (IntKind.i64.wrap x + Int.ofNat 1)))
    (nN [(1, .eqI 7 7), (1, .pf (IntKind.u64.wrap (Int.ofNat 1 * Int.ofNat 2 ^ min (IntKind.u64.wrap (IntKind.i64.wrap (IntKind.i64.wrap x + Int.ofNat 1))).toNat 64) = IntKind.u64.wrap (Int.ofNat 1 * Int.ofNat 2 ^ min (IntKind.u64.wrap (IntKind.i64.wrap (IntKind.i64.wrap x + Int.ofNat 1))).toNat 64)) rfl), (1, .pf (x_16.lk = x_16.lk) rfl), (1, .pf (x_16.lc = x_16.lc) rfl), (1, .pf (x_16.lo = x_16.lo) rfl), (1, .pf (x_16.ln = x_16.ln) rfl), (1, .pf (x_16.ct = x_16.ct) rfl), (1, .eq 52 52), (1, .le 52 52), (1, .pf (∀ (e : Nat), e < 52 → x_16.g e = x_16.g e) (by intros; rfl)), (1, .pf (∃ (x_17 : Mm), x_17 = (Mm.mk (fun (e : Nat) => x_16.g e) x_16.lk x_16.lc x_16.lo x_16.ln x_16.ct).acc 52 (Int.ofNat 4) (Int.ofNat 7) (bits BinOp.or IntKind.u64 ((Mm.mk (fun (e : Nat) => x_16.g e) x_16.lk x_16.lc x_16.lo x_16.ln x_16.ct).val 52 (Int.ofNat 7)) (IntKind.u64.wrap (Int.ofNat 1 * Int.ofNat 2 ^ min (IntKind.u64.wrap (IntKind.i64.wrap (IntKind.i64.wrap x + Int.ofNat 1))).toNat 64)))) ⟨_, rfl⟩)]
    (V.any Mm (fun (m' : Mm) => m' = (Mm.mk (fun (e : Nat) => x_16.g e) x_16.lk x_16.lc x_16.lo x_16.ln x_16.ct).acc 52 (Int.ofNat 4) (Int.ofNat 7) (bits BinOp.or IntKind.u64 ((Mm.mk (fun (e : Nat) => x_16.g e) x_16.lk x_16.lc x_16.lo x_16.ln x_16.ct).val 52 (Int.ofNat 7)) (IntKind.u64.wrap (Int.ofNat 1 * Int.ofNat 2 ^ min (IntKind.u64.wrap (IntKind.i64.wrap (IntKind.i64.wrap x + Int.ofNat 1))).toNat 64)))) fun (x_17 : Mm) => nN [(1, .pf (∃ (x : Int), x = (Mm.mk (fun (e : Nat) => x_16.g e) x_16.lk x_16.lc x_16.lo x_16.ln x_16.ct).val 52 (Int.ofNat 7)) ⟨_, rfl⟩)]
    (V.any Int (fun (v : Int) => v = (Mm.mk (fun (e : Nat) => x_16.g e) x_16.lk x_16.lc x_16.lo x_16.ln x_16.ct).val 52 (Int.ofNat 7)) fun (x_18 : Int) => nN [(18, .lt2 0 1 0 1)]
    (V.need (φSw age now t m (Re.mk (Int.ofNat 1) (Int.ofNat 0) (Int.ofNat 10) (Mm.mk (fun (e : Nat) => x_17.g e) x_17.lk x_17.lc x_17.lo x_17.ln x_17.ct) (El.mk (l.n + 1) (Evs.mk (fun (i : Nat) => if 0 = 0 ∧ i = l.n then Int.ofNat 12 else l.v.k i) (fun (i : Nat) => if 0 = 0 ∧ i = l.n then Int.ofNat 0 else l.v.w i) (fun (i : Nat) => if 0 = 0 ∧ i = l.n then t else l.v.t i) (fun (i : Nat) => if 0 = 0 ∧ i = l.n then Int.ofNat 0 else l.v.o i) fun (i : Nat) => if 0 = 0 ∧ i = l.n then IntKind.i64.wrap (IntKind.i64.wrap x + Int.ofNat 1) else l.v.l i))) ∧ l.n + 1 ≤ x_7)
    (nN [(1, .eqI 1 1), (1, .eqI 0 0), (1, .eqI 10 10), (1, .pf (age = age) rfl), (1, .pf (l.n + 1 = l.n + 1) rfl), (1, .pf (x_7 = x_7) rfl), (1, .pf (x_17.lk = x_17.lk) rfl), (1, .pf (x_17.lc = x_17.lc) rfl), (1, .pf (x_17.lo = x_17.lo) rfl), (1, .pf (x_17.ln = x_17.ln) rfl), (1, .pf (x_17.ct = x_17.ct) rfl), (1, .eq 52 52), (1, .le 52 52), (1, .pf (∀ (e : Nat), e < 52 → x_17.g e = x_17.g e) (by intros; rfl)), (1, .pf (now = now) rfl), (1, .pf (x_7 = x_7) rfl)]
    (V.need (l.n + 1 ≤ l.n + 1)
    (V.need (∀ (e : Nat), e < l.n + 1 → (if 0 = 0 ∧ e = l.n then Int.ofNat 12 else l.v.k e) = if 0 = 0 ∧ e = l.n then Int.ofNat 12 else l.v.k e)
    (V.need (∀ (e : Nat), e < l.n + 1 → (if 0 = 0 ∧ e = l.n then Int.ofNat 0 else l.v.w e) = if 0 = 0 ∧ e = l.n then Int.ofNat 0 else l.v.w e)
    (V.need (∀ (e : Nat), e < l.n + 1 → (if 0 = 0 ∧ e = l.n then t else l.v.t e) = if 0 = 0 ∧ e = l.n then t else l.v.t e)
    (V.need (∀ (e : Nat), e < l.n + 1 → (if 0 = 0 ∧ e = l.n then Int.ofNat 0 else l.v.o e) = if 0 = 0 ∧ e = l.n then Int.ofNat 0 else l.v.o e)
    (V.need (∀ (e : Nat), e < l.n + 1 → (if 0 = 0 ∧ e = l.n then IntKind.i64.wrap (IntKind.i64.wrap x + Int.ofNat 1) else l.v.l e) = if 0 = 0 ∧ e = l.n then IntKind.i64.wrap (IntKind.i64.wrap x + Int.ofNat 1) else l.v.l e) V.ok)))))))))))))))
    (V.need (φSw age now t m (Re.mk (Int.negSucc 0) (Int.ofNat 0) (Int.ofNat 9) (Mm.mk (fun (e : Nat) => x_16.g e) x_16.lk x_16.lc x_16.lo x_16.ln x_16.ct) (El.mk (l.n + 1) (Evs.mk (fun (i : Nat) => if 0 = 0 ∧ i = l.n then Int.ofNat 12 else l.v.k i) (fun (i : Nat) => if 0 = 0 ∧ i = l.n then Int.ofNat 0 else l.v.w i) (fun (i : Nat) => if 0 = 0 ∧ i = l.n then t else l.v.t i) (fun (i : Nat) => if 0 = 0 ∧ i = l.n then Int.ofNat 0 else l.v.o i) fun (i : Nat) => if 0 = 0 ∧ i = l.n then IntKind.i64.wrap (IntKind.i64.wrap x + Int.ofNat 1) else l.v.l i))) ∧ l.n + 1 ≤ x_7)
    (nN [(1, .pf (Int.negSucc 0 = Int.negSucc 0) rfl), (1, .eqI 0 0), (1, .eqI 9 9), (1, .pf (age = age) rfl), (1, .pf (l.n + 1 = l.n + 1) rfl), (1, .pf (x_7 = x_7) rfl), (1, .pf (x_16.lk = x_16.lk) rfl), (1, .pf (x_16.lc = x_16.lc) rfl), (1, .pf (x_16.lo = x_16.lo) rfl), (1, .pf (x_16.ln = x_16.ln) rfl), (1, .pf (x_16.ct = x_16.ct) rfl), (1, .eq 52 52), (1, .le 52 52), (1, .pf (∀ (e : Nat), e < 52 → x_16.g e = x_16.g e) (by intros; rfl)), (1, .pf (now = now) rfl), (1, .pf (x_7 = x_7) rfl)]
    (V.need (l.n + 1 ≤ l.n + 1)
    (V.need (∀ (e : Nat), e < l.n + 1 → (if 0 = 0 ∧ e = l.n then Int.ofNat 12 else l.v.k e) = if 0 = 0 ∧ e = l.n then Int.ofNat 12 else l.v.k e)
    (V.need (∀ (e : Nat), e < l.n + 1 → (if 0 = 0 ∧ e = l.n then Int.ofNat 0 else l.v.w e) = if 0 = 0 ∧ e = l.n then Int.ofNat 0 else l.v.w e)
    (V.need (∀ (e : Nat), e < l.n + 1 → (if 0 = 0 ∧ e = l.n then t else l.v.t e) = if 0 = 0 ∧ e = l.n then t else l.v.t e)
    (V.need (∀ (e : Nat), e < l.n + 1 → (if 0 = 0 ∧ e = l.n then Int.ofNat 0 else l.v.o e) = if 0 = 0 ∧ e = l.n then Int.ofNat 0 else l.v.o e)
    (V.need (∀ (e : Nat), e < l.n + 1 → (if 0 = 0 ∧ e = l.n then IntKind.i64.wrap (IntKind.i64.wrap x + Int.ofNat 1) else l.v.l e) = if 0 = 0 ∧ e = l.n then IntKind.i64.wrap (IntKind.i64.wrap x + Int.ofNat 1) else l.v.l e) V.ok)))))))))))
    (V.need (φSw age now t m (Re.mk (Int.negSucc 0) (Int.ofNat 0) (Int.ofNat 8) (Mm.mk (fun (e : Nat) => x_15.g e) x_15.lk x_15.lc x_15.lo x_15.ln x_15.ct) (El.mk (l.n + 1) (Evs.mk (fun (i : Nat) => if 0 = 0 ∧ i = l.n then Int.ofNat 12 else l.v.k i) (fun (i : Nat) => if 0 = 0 ∧ i = l.n then Int.ofNat 0 else l.v.w i) (fun (i : Nat) => if 0 = 0 ∧ i = l.n then t else l.v.t i) (fun (i : Nat) => if 0 = 0 ∧ i = l.n then Int.ofNat 0 else l.v.o i) fun (i : Nat) => if 0 = 0 ∧ i = l.n then IntKind.i64.wrap (IntKind.i64.wrap x + Int.ofNat 1) else l.v.l i))) ∧ l.n + 1 ≤ x_7)
    (nN [(1, .pf (Int.negSucc 0 = Int.negSucc 0) rfl), (1, .eqI 0 0), (1, .eqI 8 8), (1, .pf (age = age) rfl), (1, .pf (l.n + 1 = l.n + 1) rfl), (1, .pf (x_7 = x_7) rfl), (1, .pf (x_15.lk = x_15.lk) rfl), (1, .pf (x_15.lc = x_15.lc) rfl), (1, .pf (x_15.lo = x_15.lo) rfl), (1, .pf (x_15.ln = x_15.ln) rfl), (1, .pf (x_15.ct = x_15.ct) rfl), (1, .eq 52 52), (1, .le 52 52), (1, .pf (∀ (e : Nat), e < 52 → x_15.g e = x_15.g e) (by intros; rfl)), (1, .pf (now = now) rfl), (1, .pf (x_7 = x_7) rfl)]
    (V.need (l.n + 1 ≤ l.n + 1)
    (V.need (∀ (e : Nat), e < l.n + 1 → (if 0 = 0 ∧ e = l.n then Int.ofNat 12 else l.v.k e) = if 0 = 0 ∧ e = l.n then Int.ofNat 12 else l.v.k e)
    (V.need (∀ (e : Nat), e < l.n + 1 → (if 0 = 0 ∧ e = l.n then Int.ofNat 0 else l.v.w e) = if 0 = 0 ∧ e = l.n then Int.ofNat 0 else l.v.w e)
    (V.need (∀ (e : Nat), e < l.n + 1 → (if 0 = 0 ∧ e = l.n then t else l.v.t e) = if 0 = 0 ∧ e = l.n then t else l.v.t e)
    (V.need (∀ (e : Nat), e < l.n + 1 → (if 0 = 0 ∧ e = l.n then Int.ofNat 0 else l.v.o e) = if 0 = 0 ∧ e = l.n then Int.ofNat 0 else l.v.o e)
    (V.need (∀ (e : Nat), e < l.n + 1 → (if 0 = 0 ∧ e = l.n then IntKind.i64.wrap (IntKind.i64.wrap x + Int.ofNat 1) else l.v.l e) = if 0 = 0 ∧ e = l.n then IntKind.i64.wrap (IntKind.i64.wrap x + Int.ofNat 1) else l.v.l e) V.ok))))))))))
    (nN [(4, .lt2 0 1 0 1)]
    (V.need (IntKind.u64.wrap (Int.ofNat 4) ≠ Int.ofNat 0)
    (nN [(3, .lt2 0 1 0 1), (1, .pf (IntKind.i64.wrap (x_10 + Int.ofNat 2 + IntKind.i64.wrap (x_12.tmod (IntKind.u64.wrap (Int.ofNat 4)))) = IntKind.i64.wrap (x_10 + Int.ofNat 2 + IntKind.i64.wrap (x_12.tmod (IntKind.u64.wrap (Int.ofNat 4))))) rfl), (1, .pf (IntKind.u64.wrap t = IntKind.u64.wrap t) rfl), (1, .pf (x_13.lk = x_13.lk) rfl), (1, .pf (x_13.lc = x_13.lc) rfl), (1, .pf (x_13.lo = x_13.lo) rfl), (1, .pf (x_13.ln = x_13.ln) rfl), (1, .pf (x_13.ct = x_13.ct) rfl), (1, .eq 52 52), (1, .le 52 52), (1, .pf (∀ (e : Nat), e < 52 → x_13.g e = x_13.g e) (by intros; rfl)), (1, .pf (∃ (x : Mm), x = (Mm.mk (fun (e : Nat) => x_13.g e) x_13.lk x_13.lc x_13.lo x_13.ln x_13.ct).acc 52 (Int.ofNat 2) (IntKind.i64.wrap (x_10 + Int.ofNat 2 + IntKind.i64.wrap (x_12.tmod (IntKind.u64.wrap (Int.ofNat 4))))) (IntKind.u64.wrap t)) ⟨_, rfl⟩)]
    (V.any Mm (fun (m' : Mm) => m' = (Mm.mk (fun (e : Nat) => x_13.g e) x_13.lk x_13.lc x_13.lo x_13.ln x_13.ct).acc 52 (Int.ofNat 2) (IntKind.i64.wrap (x_10 + Int.ofNat 2 + IntKind.i64.wrap (x_12.tmod (IntKind.u64.wrap (Int.ofNat 4))))) (IntKind.u64.wrap t)) fun (x_15 : Mm) => V.br true
    (nN [(10, .lt2 0 1 0 1), (1, .pf (x_10 + Int.ofNat 1 = x_10 + Int.ofNat 1) rfl), (1, .pf (IntKind.u64.wrap (x_12 + Int.ofNat 1) = IntKind.u64.wrap (x_12 + Int.ofNat 1)) rfl), (1, .pf (x_15.lk = x_15.lk) rfl), (1, .pf (x_15.lc = x_15.lc) rfl), (1, .pf (x_15.lo = x_15.lo) rfl), (1, .pf (x_15.ln = x_15.ln) rfl), (1, .pf (x_15.ct = x_15.ct) rfl), (1, .eq 52 52), (1, .le 52 52), (1, .pf (∀ (e : Nat), e < 52 → x_15.g e = x_15.g e) (by intros; rfl)), (1, .pf (∃ (x : Mm), x = (Mm.mk (fun (e : Nat) => x_15.g e) x_15.lk x_15.lc x_15.lo x_15.ln x_15.ct).acc 52 (Int.ofNat 2) (x_10 + Int.ofNat 1) (IntKind.u64.wrap (x_12 + Int.ofNat 1))) ⟨_, rfl⟩)]
    (V.any Mm (fun (m' : Mm) => m' = (Mm.mk (fun (e : Nat) => x_15.g e) x_15.lk x_15.lc x_15.lo x_15.ln x_15.ct).acc 52 (Int.ofNat 2) (x_10 + Int.ofNat 1) (IntKind.u64.wrap (x_12 + Int.ofNat 1))) fun (x_16 : Mm) => nN [(29, .lt2 0 1 0 1)]
    (V.br true
    (nN [(9, .lt2 0 1 0 1)]
    (V.br (decide (IntKind.i64.wrap (IntKind.i64.wrap x + Int.ofNat 1) < Int.ofNat 0))
    (nN [(1, .eqI 7 7), (1, .eqI 0 0), (1, .pf (x_16.lk = x_16.lk) rfl), (1, .pf (x_16.lc = x_16.lc) rfl), (1, .pf (x_16.lo = x_16.lo) rfl), (1, .pf (x_16.ln = x_16.ln) rfl), (1, .pf (x_16.ct = x_16.ct) rfl), (1, .eq 52 52), (1, .le 52 52), (1, .pf (∀ (e : Nat), e < 52 → x_16.g e = x_16.g e) (by intros; rfl)), (1, .pf (∃ (x : Mm), x = (Mm.mk (fun (e : Nat) => x_16.g e) x_16.lk x_16.lc x_16.lo x_16.ln x_16.ct).acc 52 (Int.ofNat 4) (Int.ofNat 7) (bits BinOp.or IntKind.u64 ((Mm.mk (fun (e : Nat) => x_16.g e) x_16.lk x_16.lc x_16.lo x_16.ln x_16.ct).val 52 (Int.ofNat 7)) (Int.ofNat 0))) ⟨_, rfl⟩)]
    (V.any Mm (fun (m' : Mm) => m' = (Mm.mk (fun (e : Nat) => x_16.g e) x_16.lk x_16.lc x_16.lo x_16.ln x_16.ct).acc 52 (Int.ofNat 4) (Int.ofNat 7) (bits BinOp.or IntKind.u64 ((Mm.mk (fun (e : Nat) => x_16.g e) x_16.lk x_16.lc x_16.lo x_16.ln x_16.ct).val 52 (Int.ofNat 7)) (Int.ofNat 0))) fun (x_17 : Mm) => nN [(1, .pf (∃ (x : Int), x = (Mm.mk (fun (e : Nat) => x_16.g e) x_16.lk x_16.lc x_16.lo x_16.ln x_16.ct).val 52 (Int.ofNat 7)) ⟨_, rfl⟩)]
    (V.any Int (fun (v : Int) => v = (Mm.mk (fun (e : Nat) => x_16.g e) x_16.lk x_16.lc x_16.lo x_16.ln x_16.ct).val 52 (Int.ofNat 7)) fun (x_18 : Int) => nN [(18, .lt2 0 1 0 1)]
    (V.need (φSw age now t m (Re.mk (Int.ofNat 1) (Int.ofNat 0) (Int.ofNat 10) (Mm.mk (fun (e : Nat) => x_17.g e) x_17.lk x_17.lc x_17.lo x_17.ln x_17.ct) (El.mk (l.n + 1) (Evs.mk (fun (i : Nat) => if 0 = 0 ∧ i = l.n then Int.ofNat 12 else l.v.k i) (fun (i : Nat) => if 0 = 0 ∧ i = l.n then Int.ofNat 0 else l.v.w i) (fun (i : Nat) => if 0 = 0 ∧ i = l.n then t else l.v.t i) (fun (i : Nat) => if 0 = 0 ∧ i = l.n then Int.ofNat 0 else l.v.o i) fun (i : Nat) => if 0 = 0 ∧ i = l.n then IntKind.i64.wrap (IntKind.i64.wrap x + Int.ofNat 1) else l.v.l i))) ∧ l.n + 1 ≤ x_7)
    (nN [(1, .eqI 1 1), (1, .eqI 0 0), (1, .eqI 10 10), (1, .pf (age = age) rfl), (1, .pf (l.n + 1 = l.n + 1) rfl), (1, .pf (x_7 = x_7) rfl), (1, .pf (x_17.lk = x_17.lk) rfl), (1, .pf (x_17.lc = x_17.lc) rfl), (1, .pf (x_17.lo = x_17.lo) rfl), (1, .pf (x_17.ln = x_17.ln) rfl), (1, .pf (x_17.ct = x_17.ct) rfl), (1, .eq 52 52), (1, .le 52 52), (1, .pf (∀ (e : Nat), e < 52 → x_17.g e = x_17.g e) (by intros; rfl)), (1, .pf (now = now) rfl), (1, .pf (x_7 = x_7) rfl)]
    (V.need (l.n + 1 ≤ l.n + 1)
    (V.need (∀ (e : Nat), e < l.n + 1 → (if 0 = 0 ∧ e = l.n then Int.ofNat 12 else l.v.k e) = if 0 = 0 ∧ e = l.n then Int.ofNat 12 else l.v.k e)
    (V.need (∀ (e : Nat), e < l.n + 1 → (if 0 = 0 ∧ e = l.n then Int.ofNat 0 else l.v.w e) = if 0 = 0 ∧ e = l.n then Int.ofNat 0 else l.v.w e)
    (V.need (∀ (e : Nat), e < l.n + 1 → (if 0 = 0 ∧ e = l.n then t else l.v.t e) = if 0 = 0 ∧ e = l.n then t else l.v.t e)
    (V.need (∀ (e : Nat), e < l.n + 1 → (if 0 = 0 ∧ e = l.n then Int.ofNat 0 else l.v.o e) = if 0 = 0 ∧ e = l.n then Int.ofNat 0 else l.v.o e)
    (V.need (∀ (e : Nat), e < l.n + 1 → (if 0 = 0 ∧ e = l.n then IntKind.i64.wrap (IntKind.i64.wrap x + Int.ofNat 1) else l.v.l e) = if 0 = 0 ∧ e = l.n then IntKind.i64.wrap (IntKind.i64.wrap x + Int.ofNat 1) else l.v.l e) V.ok)))))))))))
    (V.br (decide (IntKind.i64.wrap (IntKind.i64.wrap x + Int.ofNat 1) > Int.ofNat 63))
    (nN [(1, .eqI 7 7), (1, .eqI 0 0), (1, .pf (x_16.lk = x_16.lk) rfl), (1, .pf (x_16.lc = x_16.lc) rfl), (1, .pf (x_16.lo = x_16.lo) rfl), (1, .pf (x_16.ln = x_16.ln) rfl), (1, .pf (x_16.ct = x_16.ct) rfl), (1, .eq 52 52), (1, .le 52 52), (1, .pf (∀ (e : Nat), e < 52 → x_16.g e = x_16.g e) (by intros; rfl)), (1, .pf (∃ (x : Mm), x = (Mm.mk (fun (e : Nat) => x_16.g e) x_16.lk x_16.lc x_16.lo x_16.ln x_16.ct).acc 52 (Int.ofNat 4) (Int.ofNat 7) (bits BinOp.or IntKind.u64 ((Mm.mk (fun (e : Nat) => x_16.g e) x_16.lk x_16.lc x_16.lo x_16.ln x_16.ct).val 52 (Int.ofNat 7)) (Int.ofNat 0))) ⟨_, rfl⟩)]
    (V.any Mm (fun (m' : Mm) => m' = (Mm.mk (fun (e : Nat) => x_16.g e) x_16.lk x_16.lc x_16.lo x_16.ln x_16.ct).acc 52 (Int.ofNat 4) (Int.ofNat 7) (bits BinOp.or IntKind.u64 ((Mm.mk (fun (e : Nat) => x_16.g e) x_16.lk x_16.lc x_16.lo x_16.ln x_16.ct).val 52 (Int.ofNat 7)) (Int.ofNat 0))) fun (x_17 : Mm) => nN [(1, .pf (∃ (x : Int), x = (Mm.mk (fun (e : Nat) => x_16.g e) x_16.lk x_16.lc x_16.lo x_16.ln x_16.ct).val 52 (Int.ofNat 7)) ⟨_, rfl⟩)]
    (V.any Int (fun (v : Int) => v = (Mm.mk (fun (e : Nat) => x_16.g e) x_16.lk x_16.lc x_16.lo x_16.ln x_16.ct).val 52 (Int.ofNat 7)) fun (x_18 : Int) => nN [(18, .lt2 0 1 0 1)]
    (V.need (φSw age now t m (Re.mk (Int.ofNat 1) (Int.ofNat 0) (Int.ofNat 10) (Mm.mk (fun (e : Nat) => x_17.g e) x_17.lk x_17.lc x_17.lo x_17.ln x_17.ct) (El.mk (l.n + 1) (Evs.mk (fun (i : Nat) => if 0 = 0 ∧ i = l.n then Int.ofNat 12 else l.v.k i) (fun (i : Nat) => if 0 = 0 ∧ i = l.n then Int.ofNat 0 else l.v.w i) (fun (i : Nat) => if 0 = 0 ∧ i = l.n then t else l.v.t i) (fun (i : Nat) => if 0 = 0 ∧ i = l.n then Int.ofNat 0 else l.v.o i) fun (i : Nat) => if 0 = 0 ∧ i = l.n then IntKind.i64.wrap (IntKind.i64.wrap x + Int.ofNat 1) else l.v.l i))) ∧ l.n + 1 ≤ x_7)
    (nN [(1, .eqI 1 1), (1, .eqI 0 0), (1, .eqI 10 10), (1, .pf (age = age) rfl), (1, .pf (l.n + 1 = l.n + 1) rfl), (1, .pf (x_7 = x_7) rfl), (1, .pf (x_17.lk = x_17.lk) rfl), (1, .pf (x_17.lc = x_17.lc) rfl), (1, .pf (x_17.lo = x_17.lo) rfl), (1, .pf (x_17.ln = x_17.ln) rfl), (1, .pf (x_17.ct = x_17.ct) rfl), (1, .eq 52 52), (1, .le 52 52), (1, .pf (∀ (e : Nat), e < 52 → x_17.g e = x_17.g e) (by intros; rfl)), (1, .pf (now = now) rfl), (1, .pf (x_7 = x_7) rfl)]
    (V.need (l.n + 1 ≤ l.n + 1)
    (V.need (∀ (e : Nat), e < l.n + 1 → (if 0 = 0 ∧ e = l.n then Int.ofNat 12 else l.v.k e) = if 0 = 0 ∧ e = l.n then Int.ofNat 12 else l.v.k e)
    (V.need (∀ (e : Nat), e < l.n + 1 → (if 0 = 0 ∧ e = l.n then Int.ofNat 0 else l.v.w e) = if 0 = 0 ∧ e = l.n then Int.ofNat 0 else l.v.w e)
    (V.need (∀ (e : Nat), e < l.n + 1 → (if 0 = 0 ∧ e = l.n then t else l.v.t e) = if 0 = 0 ∧ e = l.n then t else l.v.t e)
    (V.need (∀ (e : Nat), e < l.n + 1 → (if 0 = 0 ∧ e = l.n then Int.ofNat 0 else l.v.o e) = if 0 = 0 ∧ e = l.n then Int.ofNat 0 else l.v.o e)
    (V.need (∀ (e : Nat), e < l.n + 1 → (if 0 = 0 ∧ e = l.n then IntKind.i64.wrap (IntKind.i64.wrap x + Int.ofNat 1) else l.v.l e) = if 0 = 0 ∧ e = l.n then IntKind.i64.wrap (IntKind.i64.wrap x + Int.ofNat 1) else l.v.l e) V.ok)))))))))))
    (V.need (Int.ofNat 0 ≤ IntKind.u64.wrap (IntKind.i64.wrap (IntKind.i64.wrap x + Int.ofNat 1)))
    (nN [(1, .eqI 7 7), (1, .pf (IntKind.u64.wrap (Int.ofNat 1 * Int.ofNat 2 ^ min (IntKind.u64.wrap (IntKind.i64.wrap (IntKind.i64.wrap x + Int.ofNat 1))).toNat 64) = IntKind.u64.wrap (Int.ofNat 1 * Int.ofNat 2 ^ min (IntKind.u64.wrap (IntKind.i64.wrap (IntKind.i64.wrap x + Int.ofNat 1))).toNat 64)) rfl), (1, .pf (x_16.lk = x_16.lk) rfl), (1, .pf (x_16.lc = x_16.lc) rfl), (1, .pf (x_16.lo = x_16.lo) rfl), (1, .pf (x_16.ln = x_16.ln) rfl), (1, .pf (x_16.ct = x_16.ct) rfl), (1, .eq 52 52), (1, .le 52 52), (1, .pf (∀ (e : Nat), e < 52 → x_16.g e = x_16.g e) (by intros; rfl)), (1, .pf (∃ (x_17 : Mm), x_17 = (Mm.mk (fun (e : Nat) => x_16.g e) x_16.lk x_16.lc x_16.lo x_16.ln x_16.ct).acc 52 (Int.ofNat 4) (Int.ofNat 7) (bits BinOp.or IntKind.u64 ((Mm.mk (fun (e : Nat) => x_16.g e) x_16.lk x_16.lc x_16.lo x_16.ln x_16.ct).val 52 (Int.ofNat 7)) (IntKind.u64.wrap (Int.ofNat 1 * Int.ofNat 2 ^ min (IntKind.u64.wrap (IntKind.i64.wrap (IntKind.i64.wrap x + Int.ofNat 1))).toNat 64)))) ⟨_, rfl⟩)]
    (V.any Mm (fun (m' : Mm) => m' = (Mm.mk (fun (e : Nat) => x_16.g e) x_16.lk x_16.lc x_16.lo x_16.ln x_16.ct).acc 52 (Int.ofNat 4) (Int.ofNat 7) (bits BinOp.or IntKind.u64 ((Mm.mk (fun (e : Nat) => x_16.g e) x_16.lk x_16.lc x_16.lo x_16.ln x_16.ct).val 52 (Int.ofNat 7)) (IntKind.u64.wrap (Int.ofNat 1 * Int.ofNat 2 ^ min (IntKind.u64.wrap (IntKind.i64.wrap (IntKind.i64.wrap x + Int.ofNat 1))).toNat 64)))) fun (x_17 : Mm) => nN [(1, .pf (∃ (x : Int), x = (Mm.mk (fun (e : Nat) => x_16.g e) x_16.lk x_16.lc x_16.lo x_16.ln x_16.ct).val 52 (Int.ofNat 7)) ⟨_, rfl⟩)]
    (V.any Int (fun (v : Int) => v = (Mm.mk (fun (e : Nat) => x_16.g e) x_16.lk x_16.lc x_16.lo x_16.ln x_16.ct).val 52 (Int.ofNat 7)) fun (x_18 : Int) => nN [(18, .lt2 0 1 0 1)]
    (V.need (φSw age now t m (Re.mk (Int.ofNat 1) (Int.ofNat 0) (Int.ofNat 10) (Mm.mk (fun (e : Nat) => x_17.g e) x_17.lk x_17.lc x_17.lo x_17.ln x_17.ct) (El.mk (l.n + 1) (Evs.mk (fun (i : Nat) => if 0 = 0 ∧ i = l.n then Int.ofNat 12 else l.v.k i) (fun (i : Nat) => if 0 = 0 ∧ i = l.n then Int.ofNat 0 else l.v.w i) (fun (i : Nat) => if 0 = 0 ∧ i = l.n then t else l.v.t i) (fun (i : Nat) => if 0 = 0 ∧ i = l.n then Int.ofNat 0 else l.v.o i) fun (i : Nat) => if 0 = 0 ∧ i = l.n then IntKind.i64.wrap (IntKind.i64.wrap x + Int.ofNat 1) else l.v.l i))) ∧ l.n + 1 ≤ x_7)
    (nN [(1, .eqI 1 1), (1, .eqI 0 0), (1, .eqI 10 10), (1, .pf (age = age) rfl), (1, .pf (l.n + 1 = l.n + 1) rfl), (1, .pf (x_7 = x_7) rfl), (1, .pf (x_17.lk = x_17.lk) rfl), (1, .pf (x_17.lc = x_17.lc) rfl), (1, .pf (x_17.lo = x_17.lo) rfl), (1, .pf (x_17.ln = x_17.ln) rfl), (1, .pf (x_17.ct = x_17.ct) rfl), (1, .eq 52 52), (1, .le 52 52), (1, .pf (∀ (e : Nat), e < 52 → x_17.g e = x_17.g e) (by intros; rfl)), (1, .pf (now = now) rfl), (1, .pf (x_7 = x_7) rfl)]
    (V.need (l.n + 1 ≤ l.n + 1)
    (V.need (∀ (e : Nat), e < l.n + 1 → (if 0 = 0 ∧ e = l.n then Int.ofNat 12 else l.v.k e) = if 0 = 0 ∧ e = l.n then Int.ofNat 12 else l.v.k e)
    (V.need (∀ (e : Nat), e < l.n + 1 → (if 0 = 0 ∧ e = l.n then Int.ofNat 0 else l.v.w e) = if 0 = 0 ∧ e = l.n then Int.ofNat 0 else l.v.w e)
    (V.need (∀ (e : Nat), e < l.n + 1 → (if 0 = 0 ∧ e = l.n then t else l.v.t e) = if 0 = 0 ∧ e = l.n then t else l.v.t e)
    (V.need (∀ (e : Nat), e < l.n + 1 → (if 0 = 0 ∧ e = l.n then Int.ofNat 0 else l.v.o e) = if 0 = 0 ∧ e = l.n then Int.ofNat 0 else l.v.o e)
    (V.need (∀ (e : Nat), e < l.n + 1 → (if 0 = 0 ∧ e = l.n then IntKind.i64.wrap (IntKind.i64.wrap x + Int.ofNat 1) else l.v.l e) = if 0 = 0 ∧ e = l.n then IntKind.i64.wrap (IntKind.i64.wrap x + Int.ofNat 1) else l.v.l e) V.ok)))))))))))))))
    (V.need (φSw age now t m (Re.mk (Int.negSucc 0) (Int.ofNat 0) (Int.ofNat 9) (Mm.mk (fun (e : Nat) => x_16.g e) x_16.lk x_16.lc x_16.lo x_16.ln x_16.ct) (El.mk (l.n + 1) (Evs.mk (fun (i : Nat) => if 0 = 0 ∧ i = l.n then Int.ofNat 12 else l.v.k i) (fun (i : Nat) => if 0 = 0 ∧ i = l.n then Int.ofNat 0 else l.v.w i) (fun (i : Nat) => if 0 = 0 ∧ i = l.n then t else l.v.t i) (fun (i : Nat) => if 0 = 0 ∧ i = l.n then Int.ofNat 0 else l.v.o i) fun (i : Nat) => if 0 = 0 ∧ i = l.n then IntKind.i64.wrap (IntKind.i64.wrap x + Int.ofNat 1) else l.v.l i))) ∧ l.n + 1 ≤ x_7)
    (nN [(1, .pf (Int.negSucc 0 = Int.negSucc 0) rfl), (1, .eqI 0 0), (1, .eqI 9 9), (1, .pf (age = age) rfl), (1, .pf (l.n + 1 = l.n + 1) rfl), (1, .pf (x_7 = x_7) rfl), (1, .pf (x_16.lk = x_16.lk) rfl), (1, .pf (x_16.lc = x_16.lc) rfl), (1, .pf (x_16.lo = x_16.lo) rfl), (1, .pf (x_16.ln = x_16.ln) rfl), (1, .pf (x_16.ct = x_16.ct) rfl), (1, .eq 52 52), (1, .le 52 52), (1, .pf (∀ (e : Nat), e < 52 → x_16.g e = x_16.g e) (by intros; rfl)), (1, .pf (now = now) rfl), (1, .pf (x_7 = x_7) rfl)]
    (V.need (l.n + 1 ≤ l.n + 1)
    (V.need (∀ (e : Nat), e < l.n + 1 → (if 0 = 0 ∧ e = l.n then Int.ofNat 12 else l.v.k e) = if 0 = 0 ∧ e = l.n then Int.ofNat 12 else l.v.k e)
    (V.need (∀ (e : Nat), e < l.n + 1 → (if 0 = 0 ∧ e = l.n then Int.ofNat 0 else l.v.w e) = if 0 = 0 ∧ e = l.n then Int.ofNat 0 else l.v.w e)
    (V.need (∀ (e : Nat), e < l.n + 1 → (if 0 = 0 ∧ e = l.n then t else l.v.t e) = if 0 = 0 ∧ e = l.n then t else l.v.t e)
    (V.need (∀ (e : Nat), e < l.n + 1 → (if 0 = 0 ∧ e = l.n then Int.ofNat 0 else l.v.o e) = if 0 = 0 ∧ e = l.n then Int.ofNat 0 else l.v.o e)
    (V.need (∀ (e : Nat), e < l.n + 1 → (if 0 = 0 ∧ e = l.n then IntKind.i64.wrap (IntKind.i64.wrap x + Int.ofNat 1) else l.v.l e) = if 0 = 0 ∧ e = l.n then IntKind.i64.wrap (IntKind.i64.wrap x + Int.ofNat 1) else l.v.l e) V.ok)))))))))))
    (V.need (φSw age now t m (Re.mk (Int.negSucc 0) (Int.ofNat 0) (Int.ofNat 8) (Mm.mk (fun (e : Nat) => x_15.g e) x_15.lk x_15.lc x_15.lo x_15.ln x_15.ct) (El.mk (l.n + 1) (Evs.mk (fun (i : Nat) => if 0 = 0 ∧ i = l.n then Int.ofNat 12 else l.v.k i) (fun (i : Nat) => if 0 = 0 ∧ i = l.n then Int.ofNat 0 else l.v.w i) (fun (i : Nat) => if 0 = 0 ∧ i = l.n then t else l.v.t i) (fun (i : Nat) => if 0 = 0 ∧ i = l.n then Int.ofNat 0 else l.v.o i) fun (i : Nat) => if 0 = 0 ∧ i = l.n then IntKind.i64.wrap (IntKind.i64.wrap x + Int.ofNat 1) else l.v.l i))) ∧ l.n + 1 ≤ x_7)
    (nN [(1, .pf (Int.negSucc 0 = Int.negSucc 0) rfl), (1, .eqI 0 0), (1, .eqI 8 8), (1, .pf (age = age) rfl), (1, .pf (l.n + 1 = l.n + 1) rfl), (1, .pf (x_7 = x_7) rfl), (1, .pf (x_15.lk = x_15.lk) rfl), (1, .pf (x_15.lc = x_15.lc) rfl), (1, .pf (x_15.lo = x_15.lo) rfl), (1, .pf (x_15.ln = x_15.ln) rfl), (1, .pf (x_15.ct = x_15.ct) rfl), (1, .eq 52 52), (1, .le 52 52), (1, .pf (∀ (e : Nat), e < 52 → x_15.g e = x_15.g e) (by intros; rfl)), (1, .pf (now = now) rfl), (1, .pf (x_7 = x_7) rfl)]
    (V.need (l.n + 1 ≤ l.n + 1)
    (V.need (∀ (e : Nat), e < l.n + 1 → (if 0 = 0 ∧ e = l.n then Int.ofNat 12 else l.v.k e) = if 0 = 0 ∧ e = l.n then Int.ofNat 12 else l.v.k e)
    (V.need (∀ (e : Nat), e < l.n + 1 → (if 0 = 0 ∧ e = l.n then Int.ofNat 0 else l.v.w e) = if 0 = 0 ∧ e = l.n then Int.ofNat 0 else l.v.w e)
    (V.need (∀ (e : Nat), e < l.n + 1 → (if 0 = 0 ∧ e = l.n then t else l.v.t e) = if 0 = 0 ∧ e = l.n then t else l.v.t e)
    (V.need (∀ (e : Nat), e < l.n + 1 → (if 0 = 0 ∧ e = l.n then Int.ofNat 0 else l.v.o e) = if 0 = 0 ∧ e = l.n then Int.ofNat 0 else l.v.o e)
    (V.need (∀ (e : Nat), e < l.n + 1 → (if 0 = 0 ∧ e = l.n then IntKind.i64.wrap (IntKind.i64.wrap x + Int.ofNat 1) else l.v.l e) = if 0 = 0 ∧ e = l.n then IntKind.i64.wrap (IntKind.i64.wrap x + Int.ofNat 1) else l.v.l e) V.ok))))))))))))))
    (V.need (φSw age now t m (Re.mk (Int.negSucc 0) (Int.ofNat 0) (Int.ofNat 7) (Mm.mk (fun (e : Nat) => x_13.g e) x_13.lk x_13.lc x_13.lo x_13.ln x_13.ct) (El.mk (l.n + 1) (Evs.mk (fun (i : Nat) => if 0 = 0 ∧ i = l.n then Int.ofNat 12 else l.v.k i) (fun (i : Nat) => if 0 = 0 ∧ i = l.n then Int.ofNat 0 else l.v.w i) (fun (i : Nat) => if 0 = 0 ∧ i = l.n then t else l.v.t i) (fun (i : Nat) => if 0 = 0 ∧ i = l.n then Int.ofNat 0 else l.v.o i) fun (i : Nat) => if 0 = 0 ∧ i = l.n then IntKind.i64.wrap (IntKind.i64.wrap x + Int.ofNat 1) else l.v.l i))) ∧ l.n + 1 ≤ x_7)
    (nN [(1, .pf (Int.negSucc 0 = Int.negSucc 0) rfl), (1, .eqI 0 0), (1, .eqI 7 7), (1, .pf (age = age) rfl), (1, .pf (l.n + 1 = l.n + 1) rfl), (1, .pf (x_7 = x_7) rfl), (1, .pf (x_13.lk = x_13.lk) rfl), (1, .pf (x_13.lc = x_13.lc) rfl), (1, .pf (x_13.lo = x_13.lo) rfl), (1, .pf (x_13.ln = x_13.ln) rfl), (1, .pf (x_13.ct = x_13.ct) rfl), (1, .eq 52 52), (1, .le 52 52), (1, .pf (∀ (e : Nat), e < 52 → x_13.g e = x_13.g e) (by intros; rfl)), (1, .pf (now = now) rfl), (1, .pf (x_7 = x_7) rfl)]
    (V.need (l.n + 1 ≤ l.n + 1)
    (V.need (∀ (e : Nat), e < l.n + 1 → (if 0 = 0 ∧ e = l.n then Int.ofNat 12 else l.v.k e) = if 0 = 0 ∧ e = l.n then Int.ofNat 12 else l.v.k e)
    (V.need (∀ (e : Nat), e < l.n + 1 → (if 0 = 0 ∧ e = l.n then Int.ofNat 0 else l.v.w e) = if 0 = 0 ∧ e = l.n then Int.ofNat 0 else l.v.w e)
    (V.need (∀ (e : Nat), e < l.n + 1 → (if 0 = 0 ∧ e = l.n then t else l.v.t e) = if 0 = 0 ∧ e = l.n then t else l.v.t e)
    (V.need (∀ (e : Nat), e < l.n + 1 → (if 0 = 0 ∧ e = l.n then Int.ofNat 0 else l.v.o e) = if 0 = 0 ∧ e = l.n then Int.ofNat 0 else l.v.o e)
    (V.need (∀ (e : Nat), e < l.n + 1 → (if 0 = 0 ∧ e = l.n then IntKind.i64.wrap (IntKind.i64.wrap x + Int.ofNat 1) else l.v.l e) = if 0 = 0 ∧ e = l.n then IntKind.i64.wrap (IntKind.i64.wrap x + Int.ofNat 1) else l.v.l e) V.ok)))))))))))))
    (V.need (φSw age now t m (Re.mk (Int.negSucc 0) (Int.ofNat 0) (Int.ofNat 6) (Mm.mk (fun (e : Nat) => x_11.g e) x_11.lk x_11.lc x_11.lo x_11.ln x_11.ct) (El.mk (l.n + 1) (Evs.mk (fun (i : Nat) => if 0 = 0 ∧ i = l.n then Int.ofNat 12 else l.v.k i) (fun (i : Nat) => if 0 = 0 ∧ i = l.n then Int.ofNat 0 else l.v.w i) (fun (i : Nat) => if 0 = 0 ∧ i = l.n then t else l.v.t i) (fun (i : Nat) => if 0 = 0 ∧ i = l.n then Int.ofNat 0 else l.v.o i) fun (i : Nat) => if 0 = 0 ∧ i = l.n then IntKind.i64.wrap (IntKind.i64.wrap x + Int.ofNat 1) else l.v.l i))) ∧ l.n + 1 ≤ x_7)
    (nN [(1, .pf (Int.negSucc 0 = Int.negSucc 0) rfl), (1, .eqI 0 0), (1, .eqI 6 6), (1, .pf (age = age) rfl), (1, .pf (l.n + 1 = l.n + 1) rfl), (1, .pf (x_7 = x_7) rfl), (1, .pf (x_11.lk = x_11.lk) rfl), (1, .pf (x_11.lc = x_11.lc) rfl), (1, .pf (x_11.lo = x_11.lo) rfl), (1, .pf (x_11.ln = x_11.ln) rfl), (1, .pf (x_11.ct = x_11.ct) rfl), (1, .eq 52 52), (1, .le 52 52), (1, .pf (∀ (e : Nat), e < 52 → x_11.g e = x_11.g e) (by intros; rfl)), (1, .pf (now = now) rfl), (1, .pf (x_7 = x_7) rfl)]
    (V.need (l.n + 1 ≤ l.n + 1)
    (V.need (∀ (e : Nat), e < l.n + 1 → (if 0 = 0 ∧ e = l.n then Int.ofNat 12 else l.v.k e) = if 0 = 0 ∧ e = l.n then Int.ofNat 12 else l.v.k e)
    (V.need (∀ (e : Nat), e < l.n + 1 → (if 0 = 0 ∧ e = l.n then Int.ofNat 0 else l.v.w e) = if 0 = 0 ∧ e = l.n then Int.ofNat 0 else l.v.w e)
    (V.need (∀ (e : Nat), e < l.n + 1 → (if 0 = 0 ∧ e = l.n then t else l.v.t e) = if 0 = 0 ∧ e = l.n then t else l.v.t e)
    (V.need (∀ (e : Nat), e < l.n + 1 → (if 0 = 0 ∧ e = l.n then Int.ofNat 0 else l.v.o e) = if 0 = 0 ∧ e = l.n then Int.ofNat 0 else l.v.o e)
    (V.need (∀ (e : Nat), e < l.n + 1 → (if 0 = 0 ∧ e = l.n then IntKind.i64.wrap (IntKind.i64.wrap x + Int.ofNat 1) else l.v.l e) = if 0 = 0 ∧ e = l.n then IntKind.i64.wrap (IntKind.i64.wrap x + Int.ofNat 1) else l.v.l e) V.ok)))))))))))))))
    (V.need (φSw age now t m (Re.mk (Int.negSucc 0) (Int.ofNat 0) (Int.ofNat 5) (Mm.mk (fun (e : Nat) => x_9.g e) x_9.lk x_9.lc x_9.lo x_9.ln x_9.ct) (El.mk (l.n + 1) (Evs.mk (fun (i : Nat) => if 0 = 0 ∧ i = l.n then Int.ofNat 12 else l.v.k i) (fun (i : Nat) => if 0 = 0 ∧ i = l.n then Int.ofNat 0 else l.v.w i) (fun (i : Nat) => if 0 = 0 ∧ i = l.n then t else l.v.t i) (fun (i : Nat) => if 0 = 0 ∧ i = l.n then Int.ofNat 0 else l.v.o i) fun (i : Nat) => if 0 = 0 ∧ i = l.n then IntKind.i64.wrap (IntKind.i64.wrap x + Int.ofNat 1) else l.v.l i))) ∧ l.n + 1 ≤ x_7)
    (nN [(1, .pf (Int.negSucc 0 = Int.negSucc 0) rfl), (1, .eqI 0 0), (1, .eqI 5 5), (1, .pf (age = age) rfl), (1, .pf (l.n + 1 = l.n + 1) rfl), (1, .pf (x_7 = x_7) rfl), (1, .pf (x_9.lk = x_9.lk) rfl), (1, .pf (x_9.lc = x_9.lc) rfl), (1, .pf (x_9.lo = x_9.lo) rfl), (1, .pf (x_9.ln = x_9.ln) rfl), (1, .pf (x_9.ct = x_9.ct) rfl), (1, .eq 52 52), (1, .le 52 52), (1, .pf (∀ (e : Nat), e < 52 → x_9.g e = x_9.g e) (by intros; rfl)), (1, .pf (now = now) rfl), (1, .pf (x_7 = x_7) rfl)]
    (V.need (l.n + 1 ≤ l.n + 1)
    (V.need (∀ (e : Nat), e < l.n + 1 → (if 0 = 0 ∧ e = l.n then Int.ofNat 12 else l.v.k e) = if 0 = 0 ∧ e = l.n then Int.ofNat 12 else l.v.k e)
    (V.need (∀ (e : Nat), e < l.n + 1 → (if 0 = 0 ∧ e = l.n then Int.ofNat 0 else l.v.w e) = if 0 = 0 ∧ e = l.n then Int.ofNat 0 else l.v.w e)
    (V.need (∀ (e : Nat), e < l.n + 1 → (if 0 = 0 ∧ e = l.n then t else l.v.t e) = if 0 = 0 ∧ e = l.n then t else l.v.t e)
    (V.need (∀ (e : Nat), e < l.n + 1 → (if 0 = 0 ∧ e = l.n then Int.ofNat 0 else l.v.o e) = if 0 = 0 ∧ e = l.n then Int.ofNat 0 else l.v.o e)
    (V.need (∀ (e : Nat), e < l.n + 1 → (if 0 = 0 ∧ e = l.n then IntKind.i64.wrap (IntKind.i64.wrap x + Int.ofNat 1) else l.v.l e) = if 0 = 0 ∧ e = l.n then IntKind.i64.wrap (IntKind.i64.wrap x + Int.ofNat 1) else l.v.l e) V.ok))))))))))))))
    (V.need (φSw age now t m (Re.mk (Int.negSucc 0) (Int.ofNat 0) (Int.ofNat 4) (Mm.mk (fun (e : Nat) => x_5.g e) x_5.lk x_5.lc x_5.lo x_5.ln x_5.ct) (El.mk (l.n + 1) (Evs.mk (fun (i : Nat) => if 0 = 0 ∧ i = l.n then Int.ofNat 12 else l.v.k i) (fun (i : Nat) => if 0 = 0 ∧ i = l.n then Int.ofNat 0 else l.v.w i) (fun (i : Nat) => if 0 = 0 ∧ i = l.n then t else l.v.t i) (fun (i : Nat) => if 0 = 0 ∧ i = l.n then Int.ofNat 0 else l.v.o i) fun (i : Nat) => if 0 = 0 ∧ i = l.n then IntKind.i64.wrap (IntKind.i64.wrap x + Int.ofNat 1) else l.v.l i))) ∧ l.n + 1 ≤ x_7)
    (nN [(1, .pf (Int.negSucc 0 = Int.negSucc 0) rfl), (1, .eqI 0 0), (1, .eqI 4 4), (1, .pf (age = age) rfl), (1, .pf (l.n + 1 = l.n + 1) rfl), (1, .pf (x_7 = x_7) rfl), (1, .pf (x_5.lk = x_5.lk) rfl), (1, .pf (x_5.lc = x_5.lc) rfl), (1, .pf (x_5.lo = x_5.lo) rfl), (1, .pf (x_5.ln = x_5.ln) rfl), (1, .pf (x_5.ct = x_5.ct) rfl), (1, .eq 52 52), (1, .le 52 52), (1, .pf (∀ (e : Nat), e < 52 → x_5.g e = x_5.g e) (by intros; rfl)), (1, .pf (now = now) rfl), (1, .pf (x_7 = x_7) rfl)]
    (V.need (l.n + 1 ≤ l.n + 1)
    (V.need (∀ (e : Nat), e < l.n + 1 → (if 0 = 0 ∧ e = l.n then Int.ofNat 12 else l.v.k e) = if 0 = 0 ∧ e = l.n then Int.ofNat 12 else l.v.k e)
    (V.need (∀ (e : Nat), e < l.n + 1 → (if 0 = 0 ∧ e = l.n then Int.ofNat 0 else l.v.w e) = if 0 = 0 ∧ e = l.n then Int.ofNat 0 else l.v.w e)
    (V.need (∀ (e : Nat), e < l.n + 1 → (if 0 = 0 ∧ e = l.n then t else l.v.t e) = if 0 = 0 ∧ e = l.n then t else l.v.t e)
    (V.need (∀ (e : Nat), e < l.n + 1 → (if 0 = 0 ∧ e = l.n then Int.ofNat 0 else l.v.o e) = if 0 = 0 ∧ e = l.n then Int.ofNat 0 else l.v.o e)
    (V.need (∀ (e : Nat), e < l.n + 1 → (if 0 = 0 ∧ e = l.n then IntKind.i64.wrap (IntKind.i64.wrap x + Int.ofNat 1) else l.v.l e) = if 0 = 0 ∧ e = l.n then IntKind.i64.wrap (IntKind.i64.wrap x + Int.ofNat 1) else l.v.l e) V.ok)))))))))))))))))))
    (V.need (φSw age now t m (Re.mk (Int.negSucc 0) (Int.ofNat 0) (Int.ofNat 3) (Mm.mk (fun (e : Nat) => x_3.g e) x_3.lk x_3.lc x_3.lo x_3.ln x_3.ct) (El.mk l.n (Evs.mk (fun (i : Nat) => l.v.k i) (fun (i : Nat) => l.v.w i) (fun (i : Nat) => l.v.t i) (fun (i : Nat) => l.v.o i) fun (i : Nat) => l.v.l i))) ∧ l.n ≤ nc)
    (nN [(1, .pf (Int.negSucc 0 = Int.negSucc 0) rfl), (1, .eqI 0 0), (1, .eqI 3 3), (1, .pf (age = age) rfl), (1, .pf (l.n = l.n) rfl), (1, .pf (nc = nc) rfl), (1, .pf (x_3.lk = x_3.lk) rfl), (1, .pf (x_3.lc = x_3.lc) rfl), (1, .pf (x_3.lo = x_3.lo) rfl), (1, .pf (x_3.ln = x_3.ln) rfl), (1, .pf (x_3.ct = x_3.ct) rfl), (1, .eq 52 52), (1, .le 52 52), (1, .pf (∀ (e : Nat), e < 52 → x_3.g e = x_3.g e) (by intros; rfl)), (1, .pf (now = now) rfl), (1, .pf (nc = nc) rfl), (1, .pf (l.n ≤ l.n) (Nat.le_refl _)), (1, .pf (∀ (e : Nat), e < l.n → l.v.k e = l.v.k e) (by intros; rfl)), (1, .pf (∀ (e : Nat), e < l.n → l.v.w e = l.v.w e) (by intros; rfl)), (1, .pf (∀ (e : Nat), e < l.n → l.v.t e = l.v.t e) (by intros; rfl)), (1, .pf (∀ (e : Nat), e < l.n → l.v.o e = l.v.o e) (by intros; rfl)), (1, .pf (∀ (e : Nat), e < l.n → l.v.l e = l.v.l e) (by intros; rfl))] V.ok))))))))))
    (V.need (φSw age now t m (Re.mk (Int.negSucc 0) (Int.ofNat 0) (Int.ofNat 2) (Mm.mk (fun (e : Nat) => x_2.g e) x_2.lk x_2.lc x_2.lo x_2.ln x_2.ct) (El.mk l.n (Evs.mk (fun (i : Nat) => l.v.k i) (fun (i : Nat) => l.v.w i) (fun (i : Nat) => l.v.t i) (fun (i : Nat) => l.v.o i) fun (i : Nat) => l.v.l i))) ∧ l.n ≤ nc)
    (nN [(1, .pf (Int.negSucc 0 = Int.negSucc 0) rfl), (1, .eqI 0 0), (1, .eqI 2 2), (1, .pf (age = age) rfl), (1, .pf (l.n = l.n) rfl), (1, .pf (nc = nc) rfl), (1, .pf (x_2.lk = x_2.lk) rfl), (1, .pf (x_2.lc = x_2.lc) rfl), (1, .pf (x_2.lo = x_2.lo) rfl), (1, .pf (x_2.ln = x_2.ln) rfl), (1, .pf (x_2.ct = x_2.ct) rfl), (1, .eq 52 52), (1, .le 52 52), (1, .pf (∀ (e : Nat), e < 52 → x_2.g e = x_2.g e) (by intros; rfl)), (1, .pf (now = now) rfl), (1, .pf (nc = nc) rfl), (1, .pf (l.n ≤ l.n) (Nat.le_refl _)), (1, .pf (∀ (e : Nat), e < l.n → l.v.k e = l.v.k e) (by intros; rfl)), (1, .pf (∀ (e : Nat), e < l.n → l.v.w e = l.v.w e) (by intros; rfl)), (1, .pf (∀ (e : Nat), e < l.n → l.v.t e = l.v.t e) (by intros; rfl)), (1, .pf (∀ (e : Nat), e < l.n → l.v.o e = l.v.o e) (by intros; rfl)), (1, .pf (∀ (e : Nat), e < l.n → l.v.l e = l.v.l e) (by intros; rfl))] V.ok))))))))))
    (V.need (φSw age now t m (Re.mk (Int.negSucc 0) (Int.ofNat 0) (Int.ofNat 1) (Mm.mk (fun (e : Nat) => x_1.g e) x_1.lk x_1.lc x_1.lo x_1.ln x_1.ct) (El.mk l.n (Evs.mk (fun (i : Nat) => l.v.k i) (fun (i : Nat) => l.v.w i) (fun (i : Nat) => l.v.t i) (fun (i : Nat) => l.v.o i) fun (i : Nat) => l.v.l i))) ∧ l.n ≤ nc)
    (nN [(1, .pf (Int.negSucc 0 = Int.negSucc 0) rfl), (1, .eqI 0 0), (1, .eqI 1 1), (1, .pf (age = age) rfl), (1, .pf (l.n = l.n) rfl), (1, .pf (nc = nc) rfl), (1, .pf (x_1.lk = x_1.lk) rfl), (1, .pf (x_1.lc = x_1.lc) rfl), (1, .pf (x_1.lo = x_1.lo) rfl), (1, .pf (x_1.ln = x_1.ln) rfl), (1, .pf (x_1.ct = x_1.ct) rfl), (1, .eq 52 52), (1, .le 52 52), (1, .pf (∀ (e : Nat), e < 52 → x_1.g e = x_1.g e) (by intros; rfl)), (1, .pf (now = now) rfl), (1, .pf (nc = nc) rfl), (1, .pf (l.n ≤ l.n) (Nat.le_refl _)), (1, .pf (∀ (e : Nat), e < l.n → l.v.k e = l.v.k e) (by intros; rfl)), (1, .pf (∀ (e : Nat), e < l.n → l.v.w e = l.v.w e) (by intros; rfl)), (1, .pf (∀ (e : Nat), e < l.n → l.v.t e = l.v.t e) (by intros; rfl)), (1, .pf (∀ (e : Nat), e < l.n → l.v.o e = l.v.o e) (by intros; rfl)), (1, .pf (∀ (e : Nat), e < l.n → l.v.l e = l.v.l e) (by intros; rfl))] V.ok)))))))))))))))
    (V.need (φSw age now t m (Re.mk (Int.negSucc 0) (Int.ofNat 0) (Int.ofNat 0) (Mm.mk (fun (e : Nat) => m.g e) m.lk m.lc m.lo m.ln m.ct) (El.mk l.n (Evs.mk (fun (i : Nat) => l.v.k i) (fun (i : Nat) => l.v.w i) (fun (i : Nat) => l.v.t i) (fun (i : Nat) => l.v.o i) fun (i : Nat) => l.v.l i))) ∧ l.n ≤ nc)
    (nN [(1, .pf (Int.negSucc 0 = Int.negSucc 0) rfl), (2, .eqI 0 0), (1, .pf (age = age) rfl), (1, .pf (l.n = l.n) rfl), (1, .pf (nc = nc) rfl), (1, .pf (m.lk = m.lk) rfl), (1, .pf (m.lc = m.lc) rfl), (1, .pf (m.lo = m.lo) rfl), (1, .pf (m.ln = m.ln) rfl), (1, .pf (m.ct = m.ct) rfl), (1, .eq 52 52), (1, .le 52 52), (1, .pf (∀ (e : Nat), e < 52 → m.g e = m.g e) (by intros; rfl)), (1, .pf (now = now) rfl), (1, .pf (nc = nc) rfl), (1, .pf (l.n ≤ l.n) (Nat.le_refl _)), (1, .pf (∀ (e : Nat), e < l.n → l.v.k e = l.v.k e) (by intros; rfl)), (1, .pf (∀ (e : Nat), e < l.n → l.v.w e = l.v.w e) (by intros; rfl)), (1, .pf (∀ (e : Nat), e < l.n → l.v.t e = l.v.t e) (by intros; rfl)), (1, .pf (∀ (e : Nat), e < l.n → l.v.o e = l.v.o e) (by intros; rfl)), (1, .pf (∀ (e : Nat), e < l.n → l.v.l e = l.v.l e) (by intros; rfl))] V.ok)) := by kernel_rfl


end Go.Proofs.Ytomaagmleafjeaa.Md

/- Sweep alone, in the configuration of chapter 20: the conditions hold; the contract. -/
set_option linter.unusedVariables false
set_option linter.unusedSimpArgs false
set_option maxRecDepth 100000
namespace Go.Proofs.Ytomaagmleafjeaa.Md
open Go Go.RowKit Sx Cn Dc Ck Vc
section
variable {age now t : Int} {m : Mm}
theorem φ_same {r : Re} (hl : r.l.n = 0) (hg : ∀ e, r.m.g e = m.g e) (ho : ∀ e, 0 ≤ m.g e ∧ m.g e ≤ 18446744073709551615) (hn : ¬ (0 < age ∧ age ≤ now - m.g (cl t 4) ∧ m.g (cl t 1) < 3)) : φSw age now t m r :=
  ⟨fun _ => ⟨hl, hg _, hg _⟩, fun h => absurd h hn, fun e => by rw [hg]; exact ho e⟩
theorem val_cl {M : Mm} {a k : Int} (ht : 0 ≤ t ∧ t ≤ 3) (hk : 0 ≤ k ∧ k ≤ 4) (ha : a = 32 + t * 5 + k) : M.val 52 a = M.g (cl t k) := by
  subst ha
  rw [Mm.val_eq (by omega) (by omega)]
  rfl
theorem okc {k : Int} (ht : 0 ≤ t ∧ t ≤ 3) (hk : 0 ≤ k ∧ k ≤ 40) : okAt t (Int.ofNat 4) k (Int.ofNat 5) := ⟨by show 0 ≤ t ∧ t < (4 : Int); omega, by show 0 ≤ t * (5 : Int) ∧ t * (5 : Int) ≤ 1000000; omega, by omega⟩
end
set_option maxHeartbeats 8000000 in
theorem vhSw {age now t : Int} {m : Mm} {l : El} {nc : Nat} (h : preSw age now t m l.n) : VHolds (verSw age now t m l nc) := by
  obtain ⟨⟨ht, hA, hN⟩, hn, hok, h0, h1, h4, hz⟩ := h
  have okA : okAt t (Int.ofNat 4) (Int.ofNat 32) (Int.ofNat 5) := okc ht (by decide)
  have okB : okAt t (Int.ofNat 4) (Int.ofNat 36) (Int.ofNat 5) := okc ht (by decide)
  have okC : okAt t (Int.ofNat 4) (Int.ofNat 33) (Int.ofNat 5) := okc ht (by decide)
  have okq : True := trivial
  have p1 := (hok (cl t 1)).1
  have p4 := (hok (cl t 4)).1
  constructor
  rw [verSw_eq]
  simp only [Mm.eta]
  (repeat' first | with_reducible refine nN_h rfl ?_ | with_reducible refine V.brT ?_ | with_reducible refine V.brF ?_ | with_reducible refine V.needI ?_ ?_)
  all_goals try first
    | exact okA
    | exact okB
    | exact okC
    | exact rfl
    | exact ⟨Nat.le_refl _, rfl⟩
    | exact ⟨Nat.le_refl _, trivial⟩
    | omega
    | exact okq
    | decide
  refine V.brI (fun h => (dlt (by show ¬ t < (0 : Int); omega) h).elim) fun _ => ?_
  (repeat' first | with_reducible refine nN_h rfl ?_ | with_reducible refine V.brT ?_ | with_reducible refine V.brF ?_ | with_reducible refine V.needI ?_ ?_)
  all_goals try first
    | exact okA
    | exact okB
    | exact okC
    | exact rfl
    | exact ⟨Nat.le_refl _, rfl⟩
    | exact ⟨Nat.le_refl _, trivial⟩
    | omega
    | exact okq
    | decide
  refine V.brI (fun h => (dge (by show ¬ t ≥ (4 : Int); omega) h).elim) fun _ => ?_
  (repeat' first | with_reducible refine nN_h rfl ?_ | with_reducible refine V.brT ?_ | with_reducible refine V.brF ?_ | with_reducible refine V.needI ?_ ?_)
  all_goals try first
    | exact okA
    | exact okB
    | exact okC
    | exact rfl
    | exact ⟨Nat.le_refl _, rfl⟩
    | exact ⟨Nat.le_refl _, trivial⟩
    | omega
    | exact okq
    | decide
  refine V.brI (fun h => ?_) fun h => ?_
  · have : age = 0 := eq_of_beq h
    refine nN_h rfl (V.needI ⟨φ_same hn (fun e => rfl) hok (by omega), by omega⟩ (nN_h rfl V.okI))
  have hA0 : 0 < age := by
    have : age ≠ 0 := fun e => by rw [e] at h; exact absurd h (by decide)
    omega
  (repeat' first | with_reducible refine nN_h rfl ?_ | with_reducible refine V.brT ?_ | with_reducible refine V.brF ?_ | with_reducible refine V.needI ?_ ?_)
  all_goals try first
    | exact okA
    | exact okB
    | exact okC
    | exact rfl
    | exact ⟨Nat.le_refl _, rfl⟩
    | exact ⟨Nat.le_refl _, trivial⟩
    | omega
    | exact okq
    | decide
  refine V.anyI fun a1 ha1 => ?_
  have ha1 : a1 = 32 + t * 5 + 0 := by rw [ha1]; exact (Int.add_zero _).symm
  (repeat' first | with_reducible refine nN_h rfl ?_ | with_reducible refine V.brT ?_ | with_reducible refine V.brF ?_ | with_reducible refine V.needI ?_ ?_)
  all_goals try first
    | exact okA
    | exact okB
    | exact okC
    | exact rfl
    | exact ⟨Nat.le_refl _, rfl⟩
    | exact ⟨Nat.le_refl _, trivial⟩
    | omega
    | exact okq
    | decide
  refine V.anyI fun m1 hm1 => ?_
  have g1 : ∀ e, m1.g e = m.g e := fun e => by rw [hm1]; exact Mm.acc_ld e
  (repeat' first | with_reducible refine nN_h rfl ?_ | with_reducible refine V.brT ?_ | with_reducible refine V.brF ?_ | with_reducible refine V.needI ?_ ?_)
  all_goals try first
    | exact okA
    | exact okB
    | exact okC
    | exact rfl
    | exact ⟨Nat.le_refl _, rfl⟩
    | exact ⟨Nat.le_refl _, trivial⟩
    | omega
    | exact okq
    | decide
  refine V.anyI fun v1 hv1 => ?_
  have hv1 : v1 = 1 := by rw [hv1, val_cl ht (by decide) ha1]; exact h0
  refine V.brI (fun h => (cne (k := Int.ofNat 1) hv1 h).elim) fun _ => ?_
  (repeat' first | with_reducible refine nN_h rfl ?_ | with_reducible refine V.brT ?_ | with_reducible refine V.brF ?_ | with_reducible refine V.needI ?_ ?_)
  all_goals try first
    | exact okA
    | exact okB
    | exact okC
    | exact rfl
    | exact ⟨Nat.le_refl _, rfl⟩
    | exact ⟨Nat.le_refl _, trivial⟩
    | omega
    | exact okq
    | decide
  refine V.anyI fun a2 ha2 => ?_
  have ha2 : a2 = 32 + t * 5 + 4 := by have : a2 = 36 + t * 5 := ha2; omega
  (repeat' first | with_reducible refine nN_h rfl ?_ | with_reducible refine V.brT ?_ | with_reducible refine V.brF ?_ | with_reducible refine V.needI ?_ ?_)
  all_goals try first
    | exact okA
    | exact okB
    | exact okC
    | exact rfl
    | exact ⟨Nat.le_refl _, rfl⟩
    | exact ⟨Nat.le_refl _, trivial⟩
    | omega
    | exact okq
    | decide
  refine V.anyI fun m2 hm2 => ?_
  have g2 : ∀ e, m2.g e = m.g e := fun e => by rw [hm2, Mm.acc_ld, g1]
  (repeat' first | with_reducible refine nN_h rfl ?_ | with_reducible refine V.brT ?_ | with_reducible refine V.brF ?_ | with_reducible refine V.needI ?_ ?_)
  all_goals try first
    | exact okA
    | exact okB
    | exact okC
    | exact rfl
    | exact ⟨Nat.le_refl _, rfl⟩
    | exact ⟨Nat.le_refl _, trivial⟩
    | omega
    | exact okq
    | decide
  refine V.anyI fun v2 hv2 => ?_
  have hv2 : v2 = m.g (cl t 4) := by rw [hv2, val_cl ht (by decide) ha2, g1]
  have w2 : IntKind.i64.wrap (now - IntKind.i64.wrap v2) = now - m.g (cl t 4) := by rw [hv2, w64 (n := m.g (cl t 4)) (by omega), w64 (by omega)]
  simp only [w2]
  (repeat' first | with_reducible refine nN_h rfl ?_ | with_reducible refine V.brT ?_ | with_reducible refine V.brF ?_ | with_reducible refine V.needI ?_ ?_)
  all_goals try first
    | exact okA
    | exact okB
    | exact okC
    | exact rfl
    | exact ⟨Nat.le_refl _, rfl⟩
    | exact ⟨Nat.le_refl _, trivial⟩
    | omega
    | exact okq
    | decide
  refine V.brI (fun h => ?_) fun h => ?_
  · have h := of_decide_eq_true h
    refine nN_h rfl (V.needI ⟨φ_same hn g2 hok (by omega), by omega⟩ (nN_h rfl V.okI))
  have hw := of_decide_eq_false h
  (repeat' first | with_reducible refine nN_h rfl ?_ | with_reducible refine V.brT ?_ | with_reducible refine V.brF ?_ | with_reducible refine V.needI ?_ ?_)
  all_goals try first
    | exact okA
    | exact okB
    | exact okC
    | exact rfl
    | exact ⟨Nat.le_refl _, rfl⟩
    | exact ⟨Nat.le_refl _, trivial⟩
    | omega
    | exact okq
    | decide
  refine V.anyI fun a3 ha3 => ?_
  have ha3 : a3 = 32 + t * 5 + 1 := by have : a3 = 33 + t * 5 := ha3; omega
  (repeat' first | with_reducible refine nN_h rfl ?_ | with_reducible refine V.brT ?_ | with_reducible refine V.brF ?_ | with_reducible refine V.needI ?_ ?_)
  all_goals try first
    | exact okA
    | exact okB
    | exact okC
    | exact rfl
    | exact ⟨Nat.le_refl _, rfl⟩
    | exact ⟨Nat.le_refl _, trivial⟩
    | omega
    | exact okq
    | decide
  refine V.anyI fun m3 hm3 => ?_
  have g3 : ∀ e, m3.g e = m.g e := fun e => by rw [hm3, Mm.acc_ld, g2]
  (repeat' first | with_reducible refine nN_h rfl ?_ | with_reducible refine V.brT ?_ | with_reducible refine V.brF ?_ | with_reducible refine V.needI ?_ ?_)
  all_goals try first
    | exact okA
    | exact okB
    | exact okC
    | exact rfl
    | exact ⟨Nat.le_refl _, rfl⟩
    | exact ⟨Nat.le_refl _, trivial⟩
    | omega
    | exact okq
    | decide
  refine V.anyI fun v3 hv3 => ?_
  have hv3 : v3 = m.g (cl t 1) := by rw [hv3, val_cl ht (by decide) ha3, g2]
  have w3 : IntKind.i64.wrap v3 = v3 := w64 (by omega)
  simp only [w3]
  (repeat' first | with_reducible refine nN_h rfl ?_ | with_reducible refine V.brT ?_ | with_reducible refine V.brF ?_ | with_reducible refine V.needI ?_ ?_)
  all_goals try first
    | exact okA
    | exact okB
    | exact okC
    | exact rfl
    | exact ⟨Nat.le_refl _, rfl⟩
    | exact ⟨Nat.le_refl _, trivial⟩
    | omega
    | exact okq
    | decide
  refine V.brI (fun h => ?_) fun h => ?_
  · have h : v3 ≥ (3 : Int) := of_decide_eq_true h
    refine nN_h rfl (V.needI ⟨φ_same hn g3 hok (by omega), by omega⟩ (nN_h rfl V.okI))
  have h3 : ¬ v3 ≥ (3 : Int) := of_decide_eq_false h
  have w4 : IntKind.i64.wrap (v3 + Int.ofNat 1) = v3 + 1 := w64 (by show _ ≤ v3 + (1 : Int) ∧ v3 + (1 : Int) ≤ _; omega)
  have w5 : IntKind.u64.wrap (v3 + Int.ofNat 1) = v3 + 1 := wu64 (by show _ ≤ v3 + (1 : Int) ∧ v3 + (1 : Int) ≤ _; omega)
  have w6 : IntKind.u64.wrap now = now := wu64 (by omega)
  have w7 : IntKind.u64.wrap t = t := wu64 (by omega)
  simp only [w4, w5, w6, w7]
  (repeat' first | with_reducible refine nN_h rfl ?_ | with_reducible refine V.brT ?_ | with_reducible refine V.brF ?_ | with_reducible refine V.needI ?_ ?_)
  all_goals try first
    | exact okA
    | exact okB
    | exact okC
    | exact rfl
    | exact ⟨Nat.le_refl _, rfl⟩
    | exact ⟨Nat.le_refl _, trivial⟩
    | omega
    | exact okq
    | decide
  refine V.anyI fun a4 ha4 => ?_
  have ha4 : a4 = 32 + t * 5 + 1 := by have : a4 = 33 + t * 5 := ha4; omega
  (repeat' first | with_reducible refine nN_h rfl ?_ | with_reducible refine V.brT ?_ | with_reducible refine V.brF ?_ | with_reducible refine V.needI ?_ ?_)
  all_goals try first
    | exact okA
    | exact okB
    | exact okC
    | exact rfl
    | exact ⟨Nat.le_refl _, rfl⟩
    | exact ⟨Nat.le_refl _, trivial⟩
    | omega
    | exact okq
    | decide
  refine V.anyI fun m5 hm5 => ?_
  (repeat' first | with_reducible refine nN_h rfl ?_ | with_reducible refine V.brT ?_ | with_reducible refine V.brF ?_ | with_reducible refine V.needI ?_ ?_)
  all_goals try first
    | exact okA
    | exact okB
    | exact okC
    | exact rfl
    | exact ⟨Nat.le_refl _, rfl⟩
    | exact ⟨Nat.le_refl _, trivial⟩
    | omega
    | exact okq
    | decide
  refine V.anyI fun b6 hb6 => ?_
  have hh : m3.hit 52 a4 v3 = true := by rw [Mm.hit_val (by omega) (by omega), ha4, show (32 + t * 5 + 1).toNat = cl t 1 from rfl, g3, ← hv3]; exact decide_eq_true rfl
  rw [hh] at hm5 hb6
  refine V.brI (fun h => by rw [hb6] at h; cases h) fun _ => ?_
  (repeat' first | with_reducible refine nN_h rfl ?_ | with_reducible refine V.brT ?_ | with_reducible refine V.brF ?_ | with_reducible refine V.needI ?_ ?_)
  all_goals try first
    | exact okA
    | exact okB
    | exact okC
    | exact rfl
    | exact ⟨Nat.le_refl _, rfl⟩
    | exact ⟨Nat.le_refl _, trivial⟩
    | omega
    | exact okq
    | decide
  refine V.anyI fun c7 hc7 => ?_
  (repeat' first | with_reducible refine nN_h rfl ?_ | with_reducible refine V.brT ?_ | with_reducible refine V.brF ?_ | with_reducible refine V.needI ?_ ?_)
  all_goals try first
    | exact okA
    | exact okB
    | exact okC
    | exact rfl
    | exact ⟨Nat.le_refl _, rfl⟩
    | exact ⟨Nat.le_refl _, trivial⟩
    | omega
    | exact okq
    | decide
  refine V.anyI fun a8 ha8 => ?_
  have ha8 : a8 = 32 + t * 5 + 4 := by have : a8 = 36 + t * 5 := ha8; omega
  (repeat' first | with_reducible refine nN_h rfl ?_ | with_reducible refine V.brT ?_ | with_reducible refine V.brF ?_ | with_reducible refine V.needI ?_ ?_)
  all_goals try first
    | exact okA
    | exact okB
    | exact okC
    | exact rfl
    | exact ⟨Nat.le_refl _, rfl⟩
    | exact ⟨Nat.le_refl _, trivial⟩
    | omega
    | exact okq
    | decide
  refine V.anyI fun m9 hm9 => ?_
  (repeat' first | with_reducible refine nN_h rfl ?_ | with_reducible refine V.brT ?_ | with_reducible refine V.brF ?_ | with_reducible refine V.needI ?_ ?_)
  all_goals try first
    | exact okA
    | exact okB
    | exact okC
    | exact rfl
    | exact ⟨Nat.le_refl _, rfl⟩
    | exact ⟨Nat.le_refl _, trivial⟩
    | omega
    | exact okq
    | decide
  have okq : okQ (Ly.mk (Int.ofNat 1) (Int.ofNat 4) (Int.ofNat 1) (Int.ofNat 4) (Int.ofNat 4) (Int.ofNat 1) (Int.ofNat 5) (Int.ofNat 6) (Int.ofNat 7) (Int.ofNat 8) (Int.ofNat 32)) (Int.ofNat 0) (v3 + 1) := by
    refine ⟨by decide, ?_, by decide, by decide, by decide, by decide, ?_⟩
    · show 0 ≤ v3 + 1 ∧ v3 + 1 < (4 : Int); omega
    · show 0 ≤ (v3 + 1) * (2 + (4 : Int)) ∧ (v3 + 1) * (2 + (4 : Int)) ≤ 5000; omega
  (repeat' first | with_reducible refine nN_h rfl ?_ | with_reducible refine V.brT ?_ | with_reducible refine V.brF ?_ | with_reducible refine V.needI ?_ ?_)
  all_goals try first
    | exact okA
    | exact okB
    | exact okC
    | exact rfl
    | exact ⟨Nat.le_refl _, rfl⟩
    | exact ⟨Nat.le_refl _, trivial⟩
    | omega
    | exact okq
    | decide
  refine V.anyI fun T hT => ?_
  have hT : T = 8 + (v3 + 1) * 6 := by rw [hT]; show (8 : Int) + 0 * (4 * (2 + 4)) + (v3 + 1) * (2 + 4) = _; omega
  (repeat' first | with_reducible refine nN_h rfl ?_ | with_reducible refine V.brT ?_ | with_reducible refine V.brF ?_ | with_reducible refine V.needI ?_ ?_)
  all_goals try first
    | exact okA
    | exact okB
    | exact okC
    | exact rfl
    | exact ⟨Nat.le_refl _, rfl⟩
    | exact ⟨Nat.le_refl _, trivial⟩
    | omega
    | exact okq
    | decide
  refine V.anyI fun m11 hm11 => ?_
  have g11 : ∀ e, m11.g e = m9.g e := fun e => by rw [hm11]; exact Mm.acc_ld e
  (repeat' first | with_reducible refine nN_h rfl ?_ | with_reducible refine V.brT ?_ | with_reducible refine V.brF ?_ | with_reducible refine V.needI ?_ ?_)
  all_goals try first
    | exact okA
    | exact okB
    | exact okC
    | exact rfl
    | exact ⟨Nat.le_refl _, rfl⟩
    | exact ⟨Nat.le_refl _, trivial⟩
    | omega
    | exact okq
    | decide
  refine V.anyI fun b12 hb12 => ?_
  have z9 : ∀ e, e < 32 → m9.g e = 0 := fun e he => by
    rw [hm9, Mm.acc_ne (by omega), hm5, Mm.acc_ne (by omega), g3]
    exact hz e he
  have hb12 : b12 = 0 := by
    rw [hb12, show T + Int.ofNat 1 = T + 1 from rfl, Mm.val_eq (by omega) (by omega)]
    exact z9 _ (by omega)
  (repeat' first | with_reducible refine nN_h rfl ?_ | with_reducible refine V.brT ?_ | with_reducible refine V.brF ?_ | with_reducible refine V.needI ?_ ?_)
  all_goals try first
    | exact okA
    | exact okB
    | exact okC
    | exact rfl
    | exact ⟨Nat.le_refl _, rfl⟩
    | exact ⟨Nat.le_refl _, trivial⟩
    | omega
    | exact okq
    | decide
  refine V.anyI fun m13 hm13 => ?_
  have g13 : ∀ e, m13.g e = m9.g e := fun e => by rw [hm13, Mm.acc_ld, g11]
  (repeat' first | with_reducible refine nN_h rfl ?_ | with_reducible refine V.brT ?_ | with_reducible refine V.brF ?_ | with_reducible refine V.needI ?_ ?_)
  all_goals try first
    | exact okA
    | exact okB
    | exact okC
    | exact rfl
    | exact ⟨Nat.le_refl _, rfl⟩
    | exact ⟨Nat.le_refl _, trivial⟩
    | omega
    | exact okq
    | decide
  refine V.anyI fun b14 hb14 => ?_
  have hb14 : b14 = 0 := by
    rw [hb14, Mm.val_eq (by omega) (by omega), g11]
    exact z9 _ (by omega)
  subst hb12 hb14
  (repeat' first | with_reducible refine nN_h rfl ?_ | with_reducible refine V.brT ?_ | with_reducible refine V.brF ?_ | with_reducible refine V.needI ?_ ?_)
  all_goals try first
    | exact okA
    | exact okB
    | exact okC
    | exact rfl
    | exact ⟨Nat.le_refl _, rfl⟩
    | exact ⟨Nat.le_refl _, trivial⟩
    | omega
    | exact okq
    | decide
  refine V.brI (fun h => absurd h (by decide)) fun _ => ?_
  (repeat' first | with_reducible refine nN_h rfl ?_ | with_reducible refine V.brT ?_ | with_reducible refine V.brF ?_ | with_reducible refine V.needI ?_ ?_)
  all_goals try first
    | exact okA
    | exact okB
    | exact okC
    | exact rfl
    | exact ⟨Nat.le_refl _, rfl⟩
    | exact ⟨Nat.le_refl _, trivial⟩
    | omega
    | exact okq
    | decide
  refine V.anyI fun m15 hm15 => ?_
  have hm15 : m15 = m13.acc 52 2 (T + 2) t := by
    rw [hm15]
    show m13.acc 52 2 (IntKind.i64.wrap (T + 2 + 0)) t = _
    rw [Int.add_zero, w64 (by omega)]
  (repeat' first | with_reducible refine nN_h rfl ?_ | with_reducible refine V.brT ?_ | with_reducible refine V.brF ?_ | with_reducible refine V.needI ?_ ?_)
  all_goals try first
    | exact okA
    | exact okB
    | exact okC
    | exact rfl
    | exact ⟨Nat.le_refl _, rfl⟩
    | exact ⟨Nat.le_refl _, trivial⟩
    | omega
    | exact okq
    | decide
  refine V.anyI fun m16 hm16 => ?_
  have hm16 : m16 = m15.acc 52 2 (T + 1) 1 := hm16
  (repeat' first | with_reducible refine nN_h rfl ?_ | with_reducible refine V.brT ?_ | with_reducible refine V.brF ?_ | with_reducible refine V.needI ?_ ?_)
  all_goals try first
    | exact okA
    | exact okB
    | exact okC
    | exact rfl
    | exact ⟨Nat.le_refl _, rfl⟩
    | exact ⟨Nat.le_refl _, trivial⟩
    | omega
    | exact okq
    | decide
  refine V.brI (fun h => (dlt (by show ¬ v3 + 1 < (0 : Int); omega) h).elim) fun _ => ?_
  (repeat' first | with_reducible refine nN_h rfl ?_ | with_reducible refine V.brT ?_ | with_reducible refine V.brF ?_ | with_reducible refine V.needI ?_ ?_)
  all_goals try first
    | exact okA
    | exact okB
    | exact okC
    | exact rfl
    | exact ⟨Nat.le_refl _, rfl⟩
    | exact ⟨Nat.le_refl _, trivial⟩
    | omega
    | exact okq
    | decide
  refine V.brI (fun h => (dgt (by show ¬ v3 + 1 > (63 : Int); omega) h).elim) fun _ => ?_
  (repeat' first | with_reducible refine nN_h rfl ?_ | with_reducible refine V.brT ?_ | with_reducible refine V.brF ?_ | with_reducible refine V.needI ?_ ?_)
  all_goals try first
    | exact okA
    | exact okB
    | exact okC
    | exact rfl
    | exact ⟨Nat.le_refl _, rfl⟩
    | exact ⟨Nat.le_refl _, trivial⟩
    | omega
    | exact okq
    | decide
  all_goals try exact (wrap_ok _).1
  refine V.anyI fun m17 hm17 => ?_
  (repeat' first | with_reducible refine nN_h rfl ?_ | with_reducible refine V.brT ?_ | with_reducible refine V.brF ?_ | with_reducible refine V.needI ?_ ?_)
  all_goals try first
    | exact okA
    | exact okB
    | exact okC
    | exact rfl
    | exact ⟨Nat.le_refl _, rfl⟩
    | exact ⟨Nat.le_refl _, trivial⟩
    | omega
    | exact okq
    | decide
  refine V.anyI fun b18 hb18 => ?_
  obtain ⟨X, hX, hm17⟩ : ∃ X, (0 ≤ X ∧ X ≤ 18446744073709551615) ∧ m17 = m16.acc 52 4 7 X := ⟨_, bits_ok _, hm17⟩
  have hold : 0 < age ∧ age ≤ now - m.g (cl t 4) ∧ m.g (cl t 1) < 3 := by omega
  have ec1 : ((cl t 1 : Nat) : Int) = 33 + t * 5 := by unfold cl; omega
  have ec4 : ((cl t 4 : Nat) : Int) = 36 + t * 5 := by unfold cl; omega
  have ed : ∀ k : Int, 0 ≤ k → ((dq (m.g (cl t 1) + 1) k : Nat) : Int) = 8 + (v3 + 1) * 6 + k := fun k hk => by rw [hv3]; unfold dq; omega
  have ed0 := ed 0 (by decide)
  have ed1 := ed 1 (by decide)
  have ed2 := ed 2 (by decide)
  have hφ : ∀ r : Re, r.l.n = 1 → r.m = m17 → φSw age now t m r := fun r hr hm => by
    refine ⟨fun h => absurd hold h, fun _ => ⟨hr, ?_, ?_, ?_, ?_, ?_⟩, fun e => ?_⟩
    · rw [hm, hm17, Mm.acc_ne (by omega), hm16, Mm.acc_ne (by omega), hm15, Mm.acc_ne (by omega), g13, hm9, Mm.acc_ne (by omega), hm5, Mm.acc_eq (by omega) (by omega) (by omega)]
      show v3 + 1 = _
      rw [hv3]
    · rw [hm, hm17, Mm.acc_ne (by omega), hm16, Mm.acc_ne (by omega), hm15, Mm.acc_ne (by omega), g13, hm9, Mm.acc_eq (by omega) (by omega) (by omega)]
    · rw [hm, hm17, Mm.acc_ne (by omega), hm16, Mm.acc_ne (by omega), hm15, Mm.acc_ne (by omega), g13]
      exact z9 _ (by omega)
    · rw [hm, hm17, Mm.acc_ne (by omega), hm16, Mm.acc_eq (by omega) (by omega) (by omega)]
    · rw [hm, hm17, Mm.acc_ne (by omega), hm16, Mm.acc_ne (by omega), hm15, Mm.acc_eq (by omega) (by omega) (by omega)]
    · have o5 : ∀ e, 0 ≤ m9.g e ∧ m9.g e ≤ 18446744073709551615 := by
        rw [hm9, hm5]
        refine Mm.ok_acc (Mm.ok_acc (fun e => by rw [g3]; exact hok e) ?_) (by omega)
        show 0 ≤ v3 + 1 ∧ v3 + 1 ≤ 18446744073709551615
        omega
      rw [hm, hm17, hm16, hm15]
      exact Mm.ok_acc (Mm.ok_acc (Mm.ok_acc (fun e => by rw [g13]; exact o5 e) (by omega)) (by decide)) hX e
  have hn1 : l.n + 1 = 1 := by omega
  (repeat' first | with_reducible exact V.okI | with_reducible refine V.brT ?_ | with_reducible refine V.brF ?_ | with_reducible refine V.brI ?_ ?_ | with_reducible refine V.anyI ?_ | with_reducible refine nN_h rfl ?_ | with_reducible refine V.needI ?_ ?_ | with_reducible intro _)
  all_goals first
    | exact ⟨hφ _ hn1 rfl, hc7⟩
    | exact Nat.le_refl _
    | trivial
    | skip
noncomputable section
theorem kSw_ok (ke kx : Nat) (h : HL) (args : List SV) (H : Hp) : (∃ n, kSw ke kx h args H = .bad n) ∨ ∃ σ' n args0 h0 post, kSw ke kx h args H = useP σ' n args0 h0 post args H ∧ LocalOK P fAl args0 h0 n post := by
  unfold kSw
  rcases cellI kx 4 h with _ | t
  · exact .inl ⟨_, rfl⟩
  rcases cellI ke 7 h with _ | age
  · exact .inl ⟨_, rfl⟩
  rcases bCell ke 25 h with _ | c
  · exact .inl ⟨_, rfl⟩
  cases c with
  | slc kv i e sz ne nc =>
    simp only [fN_eq]
    rcases rdEv kv h with _ | ev
    · exact .inl ⟨_, rfl⟩
    rcases rdMm h (scK (bCell ke 22 h)) with _ | x
    · exact .inl ⟨_, rfl⟩
    rcases cellI (scK (bCell ke 23 h)) 0 h with _ | now
    · exact .inl ⟨_, rfl⟩
    · exact .inr ⟨_, _, _, _, _, rfl, local_of_ver conNL_ok fun h => vhSw h⟩
  | _ => exact .inl ⟨_, rfl⟩
theorem cAlS_ok : ContractOK P fAl cAlS := contract_of_useP fun args H => by
  unfold cAlS
  simp only [fN_eq]
  repeat' split
  all_goals first
    | exact .inl ⟨_, rfl⟩
    | exact kSw_ok _ _ _ _ _
end
end Go.Proofs.Ytomaagmleafjeaa.Md
