/- An environment in which a task waits: the conditions, printed by program. -/
import Derived.Test.YtomaagmleafjeaaMMdWtD
import Derived.Test.YtomaagmleafjeaaMW
import Derived.Test.YtomaagmleafjeaaMMdBr
set_option linter.unusedVariables false
set_option linter.unusedSimpArgs false
set_option linter.unusedVariables false
set_option maxRecDepth 100000
namespace Go.Proofs.Ytomaagmleafjeaa.Md
open Go Go.RowKit Sx Cn Dc Ck Vc

set_option maxHeartbeats 8000000 in
theorem verWt_eq (c : Cf) (t l s now : Int) : verWt c t l s now =
  nN [(1, .eqI 1 1), (1, .eqI 4 4), (1, .eqI 1 1), (2, .eqI 4 4), (2, .eqI 1 1), (1, .pf (c.A = c.A) rfl), (1, .eqI 1 1), (1, .pf (c.nP = c.nP) rfl), (1, .pf (c.rc = c.rc) rfl), (1, .pf (c.nU = c.nU) rfl), (1, .pf (c.cu = c.cu) rfl), (1, .le 1 1), (1, .pf (∀ (i : Nat), i < 1 → c.nP ≤ c.nP) (by intros; exact Nat.le_refl _)), (1, .pf (∀ (i e : Nat), i < 1 ∧ e < c.nP → e = e) (by intros; rfl)), (1, .pf (∀ (i e : Nat), i < 1 ∧ e < c.nP → c.lenP e = c.lenP e) (by intros; rfl)), (1, .pf (∀ (i e : Nat), i < 1 ∧ e < c.nP → c.FC e = c.FC e) (by intros; rfl)), (1, .le 1 1), (1, .pf (∀ (i : Nat), i < 1 → c.nU ≤ c.nU) (by intros; exact Nat.le_refl _)), (1, .pf (∀ (i e : Nat), i < 1 ∧ e < c.nU → c.uP e = c.uP e) (by intros; rfl)), (1, .pf (∀ (i e : Nat), i < 1 ∧ e < c.nU → c.uL e = c.uL e) (by intros; rfl)), (1, .pf (∀ (i e : Nat), i < 1 ∧ e < c.nU → c.uD e = c.uD e) (by intros; rfl)), (1, .pf (c.nP ≤ c.nP) (Nat.le_refl _)), (1, .pf (∀ (i : Nat), i < c.nP → c.lenP i ≤ c.lenP i) (by intros; exact Nat.le_refl _)), (1, .pf (∀ (i e : Nat), i < c.nP ∧ e < c.lenP i → c.iO i e = c.iO i e) (by intros; rfl)), (1, .pf (∀ (i e : Nat), i < c.nP ∧ e < c.lenP i → c.iA i e = c.iA i e) (by intros; rfl)), (1, .pf (∀ (i e : Nat), i < c.nP ∧ e < c.lenP i → c.iB i e = c.iB i e) (by intros; rfl))]
    (V.need (errE (Cf.mk (Int.ofNat 1) (Int.ofNat 4) (Int.ofNat 1) (Int.ofNat 4) (Int.ofNat 4) (Int.ofNat 1) (Int.ofNat 1) c.A (Int.ofNat 1) c.nP c.rc c.nU c.cu (fun (e : Nat) => c.lenP e) (fun (e : Nat) => c.FC e) (fun (i e : Nat) => c.iO i e) (fun (i e : Nat) => c.iA i e) (fun (i e : Nat) => c.iB i e) (fun (e : Nat) => c.uP e) (fun (e : Nat) => c.uL e) fun (e : Nat) => c.uD e) = Int.ofNat 0)
    (V.need (∃ (x : Cf × Nat), IsCl (Cf.mk (Int.ofNat 1) (Int.ofNat 4) (Int.ofNat 1) (Int.ofNat 4) (Int.ofNat 4) (Int.ofNat 1) (Int.ofNat 1) c.A (Int.ofNat 1) c.nP c.rc c.nU c.cu (fun (e : Nat) => c.lenP e) (fun (e : Nat) => c.FC e) (fun (i e : Nat) => c.iO i e) (fun (i e : Nat) => c.iA i e) (fun (i e : Nat) => c.iB i e) (fun (e : Nat) => c.uP e) (fun (e : Nat) => c.uL e) fun (e : Nat) => c.uD e) x.fst ∧ (Int.ofNat 4).toNat ≤ x.snd)
    (V.any (Cf × Nat) (fun (x : Cf × Nat) => IsCl (Cf.mk (Int.ofNat 1) (Int.ofNat 4) (Int.ofNat 1) (Int.ofNat 4) (Int.ofNat 4) (Int.ofNat 1) (Int.ofNat 1) c.A (Int.ofNat 1) c.nP c.rc c.nU c.cu (fun (e : Nat) => c.lenP e) (fun (e : Nat) => c.FC e) (fun (i e : Nat) => c.iO i e) (fun (i e : Nat) => c.iA i e) (fun (i e : Nat) => c.iB i e) (fun (e : Nat) => c.uP e) (fun (e : Nat) => c.uL e) fun (e : Nat) => c.uD e) x.fst ∧ (Int.ofNat 4).toNat ≤ x.snd) fun (x : Cf × Nat) => nN [(1, .pf (∃ (x : Nat × Int), x = (ncN (Cf.mk (Int.ofNat 1) (Int.ofNat 4) (Int.ofNat 1) (Int.ofNat 4) (Int.ofNat 4) (Int.ofNat 1) (Int.ofNat 1) c.A (Int.ofNat 1) c.nP c.rc c.nU c.cu (fun (e : Nat) => c.lenP e) (fun (e : Nat) => c.FC e) (fun (i e : Nat) => c.iO i e) (fun (i e : Nat) => c.iA i e) (fun (i e : Nat) => c.iB i e) (fun (e : Nat) => c.uP e) (fun (e : Nat) => c.uL e) fun (e : Nat) => c.uD e), lT (Cf.mk (Int.ofNat 1) (Int.ofNat 4) (Int.ofNat 1) (Int.ofNat 4) (Int.ofNat 4) (Int.ofNat 1) (Int.ofNat 1) c.A (Int.ofNat 1) c.nP c.rc c.nU c.cu (fun (e : Nat) => c.lenP e) (fun (e : Nat) => c.FC e) (fun (i e : Nat) => c.iO i e) (fun (i e : Nat) => c.iA i e) (fun (i e : Nat) => c.iB i e) (fun (e : Nat) => c.uP e) (fun (e : Nat) => c.uL e) fun (e : Nat) => c.uD e))) ⟨_, rfl⟩)]
    (V.any (Nat × Int) (fun (q : Nat × Int) => q = (ncN (Cf.mk (Int.ofNat 1) (Int.ofNat 4) (Int.ofNat 1) (Int.ofNat 4) (Int.ofNat 4) (Int.ofNat 1) (Int.ofNat 1) c.A (Int.ofNat 1) c.nP c.rc c.nU c.cu (fun (e : Nat) => c.lenP e) (fun (e : Nat) => c.FC e) (fun (i e : Nat) => c.iO i e) (fun (i e : Nat) => c.iA i e) (fun (i e : Nat) => c.iB i e) (fun (e : Nat) => c.uP e) (fun (e : Nat) => c.uL e) fun (e : Nat) => c.uD e), lT (Cf.mk (Int.ofNat 1) (Int.ofNat 4) (Int.ofNat 1) (Int.ofNat 4) (Int.ofNat 4) (Int.ofNat 1) (Int.ofNat 1) c.A (Int.ofNat 1) c.nP c.rc c.nU c.cu (fun (e : Nat) => c.lenP e) (fun (e : Nat) => c.FC e) (fun (i e : Nat) => c.iO i e) (fun (i e : Nat) => c.iA i e) (fun (i e : Nat) => c.iB i e) (fun (e : Nat) => c.uP e) (fun (e : Nat) => c.uL e) fun (e : Nat) => c.uD e))) fun (x_1 : Nat × Int) => nN [(33, .lt2 0 1 0 1), (1, .eqI 32 32), (1, .pf (t = t) rfl), (1, .eqI 4 4), (1, .eqI 5 5)]
    (V.need (okAt t (Int.ofNat 4) (Int.ofNat 32) (Int.ofNat 5))
    (nN [(1, .pf (∃ (x : Int), x = Int.ofNat 32 + t * Int.ofNat 5) ⟨_, rfl⟩)]
    (V.any Int (fun (r : Int) => r = Int.ofNat 32 + t * Int.ofNat 5) fun (x_2 : Int) => V.br (decide (x_2 < Int.ofNat 0))
    (nN [(1, .pf (Int.negSucc 0 = Int.negSucc 0) rfl), (1, .eqI 1 1), (5, .eqI 0 0), (1, .eq 52 52), (1, .le 52 52), (1, .pf (∀ (e : Nat), e < 52 → Int.ofNat 0 = Int.ofNat 0) (by intros; rfl)), (1, .pf (∃ (x : Mm), x = (Mm.mk (fun (e : Nat) => Int.ofNat 0) (Int.ofNat 0) (Int.ofNat 0) (Int.ofNat 0) (Int.ofNat 0) (Int.ofNat 0)).acc 52 (Int.ofNat 2) (Int.negSucc 0) (Int.ofNat 1)) ⟨_, rfl⟩)]
    (V.any Mm (fun (m' : Mm) => m' = (Mm.mk (fun (e : Nat) => Int.ofNat 0) (Int.ofNat 0) (Int.ofNat 0) (Int.ofNat 0) (Int.ofNat 0) (Int.ofNat 0)).acc 52 (Int.ofNat 2) (Int.negSucc 0) (Int.ofNat 1)) fun (x_3 : Mm) => nN [(33, .lt2 0 1 0 1), (1, .eqI 32 32), (1, .pf (t = t) rfl), (1, .eqI 4 4), (1, .eqI 5 5)]
    (V.need (okAt t (Int.ofNat 4) (Int.ofNat 32) (Int.ofNat 5))
    (nN [(1, .pf (∃ (x : Int), x = Int.ofNat 32 + t * Int.ofNat 5) ⟨_, rfl⟩)]
    (V.any Int (fun (r : Int) => r = Int.ofNat 32 + t * Int.ofNat 5) fun (x_4 : Int) => V.br (decide (x_4 < Int.ofNat 0))
    (nN [(1, .pf (Int.negSucc 0 = Int.negSucc 0) rfl), (1, .pf (IntKind.u64.wrap l = IntKind.u64.wrap l) rfl), (1, .pf (x_3.lk = x_3.lk) rfl), (1, .pf (x_3.lc = x_3.lc) rfl), (1, .pf (x_3.lo = x_3.lo) rfl), (1, .pf (x_3.ln = x_3.ln) rfl), (1, .pf (x_3.ct = x_3.ct) rfl), (1, .eq 52 52), (1, .le 52 52), (1, .pf (∀ (e : Nat), e < 52 → x_3.g e = x_3.g e) (by intros; rfl)), (1, .pf (∃ (x : Mm), x = (Mm.mk (fun (e : Nat) => x_3.g e) x_3.lk x_3.lc x_3.lo x_3.ln x_3.ct).acc 52 (Int.ofNat 2) (Int.negSucc 0) (IntKind.u64.wrap l)) ⟨_, rfl⟩)]
    (V.any Mm (fun (m' : Mm) => m' = (Mm.mk (fun (e : Nat) => x_3.g e) x_3.lk x_3.lc x_3.lo x_3.ln x_3.ct).acc 52 (Int.ofNat 2) (Int.negSucc 0) (IntKind.u64.wrap l)) fun (x_5 : Mm) => nN [(33, .lt2 0 1 0 1), (1, .eqI 32 32), (1, .pf (t = t) rfl), (1, .eqI 4 4), (1, .eqI 5 5)]
    (V.need (okAt t (Int.ofNat 4) (Int.ofNat 32) (Int.ofNat 5))
    (nN [(1, .pf (∃ (x : Int), x = Int.ofNat 32 + t * Int.ofNat 5) ⟨_, rfl⟩)]
    (V.any Int (fun (r : Int) => r = Int.ofNat 32 + t * Int.ofNat 5) fun (x_6 : Int) => V.br (decide (x_6 < Int.ofNat 0))
    (nN [(1, .pf (Int.negSucc 0 = Int.negSucc 0) rfl), (1, .pf (IntKind.u64.wrap s = IntKind.u64.wrap s) rfl), (1, .pf (x_5.lk = x_5.lk) rfl), (1, .pf (x_5.lc = x_5.lc) rfl), (1, .pf (x_5.lo = x_5.lo) rfl), (1, .pf (x_5.ln = x_5.ln) rfl), (1, .pf (x_5.ct = x_5.ct) rfl), (1, .eq 52 52), (1, .le 52 52), (1, .pf (∀ (e : Nat), e < 52 → x_5.g e = x_5.g e) (by intros; rfl)), (1, .pf (∃ (x : Mm), x = (Mm.mk (fun (e : Nat) => x_5.g e) x_5.lk x_5.lc x_5.lo x_5.ln x_5.ct).acc 52 (Int.ofNat 2) (Int.negSucc 0) (IntKind.u64.wrap s)) ⟨_, rfl⟩)]
    (V.any Mm (fun (m' : Mm) => m' = (Mm.mk (fun (e : Nat) => x_5.g e) x_5.lk x_5.lc x_5.lo x_5.ln x_5.ct).acc 52 (Int.ofNat 2) (Int.negSucc 0) (IntKind.u64.wrap s)) fun (x_7 : Mm) => V.need (Int.ofNat 0 ≤ Int.ofNat 0 ∧ Int.ofNat 0 ≤ now)
    (nN [(2, .eqI 0 0)]
    (V.any Int (fun (x : Int) => Int.ofNat 0 ≤ x ∧ x ≤ now) fun (x_8 : Int) => V.br (decide (x_8 < now))
    (nN [(3, .lt2 0 1 0 1)]
    (V.need (Int.ofNat 0 ≤ IntKind.i64.wrap (x_8 + Int.ofNat 1) ∧ IntKind.i64.wrap (x_8 + Int.ofNat 1) ≤ now)
    (V.need ((now - IntKind.i64.wrap (x_8 + Int.ofNat 1)).toNat < (now - x_8).toNat)
    (nN [(2, .pf (IntKind.i64.wrap (x_8 + Int.ofNat 1) = IntKind.i64.wrap (x_8 + Int.ofNat 1)) rfl)] V.ok))))
    (V.need (φWt c t l s now (XWt.mk (Cf.mk (Int.ofNat 1) (Int.ofNat 4) (Int.ofNat 1) (Int.ofNat 4) (Int.ofNat 4) (Int.ofNat 1) (Int.ofNat 1) c.A (Int.ofNat 1) x.fst.nP x.fst.rc x.fst.nU x.fst.cu (fun (e : Nat) => x.fst.lenP e) (fun (e : Nat) => x.fst.FC e) (fun (i e : Nat) => x.fst.iO i e) (fun (i e : Nat) => x.fst.iA i e) (fun (i e : Nat) => x.fst.iB i e) (fun (e : Nat) => x.fst.uP e) (fun (e : Nat) => x.fst.uL e) fun (e : Nat) => x.fst.uD e) x.snd (Mm.mk (fun (e : Nat) => x_7.g e) x_7.lk x_7.lc x_7.lo x_7.ln x_7.ct) x_8))
    (nN [(1, .pf (c.A = c.A) rfl), (1, .pf (x.fst.nP = x.fst.nP) rfl), (1, .pf (x.fst.rc = x.fst.rc) rfl), (1, .pf (x.fst.nU = x.fst.nU) rfl), (1, .pf (x.fst.cu = x.fst.cu) rfl), (1, .pf (x.snd = x.snd) rfl), (1, .pf (x_7.lk = x_7.lk) rfl), (1, .pf (x_7.lc = x_7.lc) rfl), (1, .pf (x_7.lo = x_7.lo) rfl), (1, .pf (x_7.ln = x_7.ln) rfl), (1, .pf (x_7.ct = x_7.ct) rfl), (1, .eq 52 52), (1, .le 52 52), (1, .pf (∀ (e : Nat), e < 52 → x_7.g e = x_7.g e) (by intros; rfl)), (1, .pf (x_8 = x_8) rfl), (1, .pf (x.snd = x.snd) rfl), (1, .le 4 4), (1, .pf (x.fst.rc = x.fst.rc) rfl), (1, .pf (x.fst.nP ≤ x.fst.nP) (Nat.le_refl _)), (1, .pf (∀ (e : Nat), e < x.fst.nP → e = e) (by intros; rfl)), (1, .pf (∀ (e : Nat), e < x.fst.nP → x.fst.lenP e = x.fst.lenP e) (by intros; rfl)), (1, .pf (∀ (e : Nat), e < x.fst.nP → x.fst.FC e = x.fst.FC e) (by intros; rfl)), (1, .pf (x.fst.cu = x.fst.cu) rfl), (1, .pf (x.fst.nU ≤ x.fst.nU) (Nat.le_refl _)), (1, .pf (∀ (e : Nat), e < x.fst.nU → x.fst.uP e = x.fst.uP e) (by intros; rfl)), (1, .pf (∀ (e : Nat), e < x.fst.nU → x.fst.uL e = x.fst.uL e) (by intros; rfl)), (1, .pf (∀ (e : Nat), e < x.fst.nU → x.fst.uD e = x.fst.uD e) (by intros; rfl))]
    (V.need (∀ (i : Nat), gd x.fst.nP x.fst.FC i = gd x.fst.nP (fun (e : Nat) => x.fst.FC e) i ∨ gd x.fst.nP (fun (e : Nat) => x.fst.FC e) i = 0)
    (V.need (∀ (i : Nat), gd x.fst.nP (fun (e : Nat) => x.fst.lenP e) i ≤ gd x.fst.nP (fun (e : Nat) => x.fst.FC e) i ∧ gd x.fst.nP (fun (e : Nat) => x.fst.lenP e) i ≤ gd x.fst.nP x.fst.lenP i)
    (nN [(1, .pf (∀ (i e : Nat), e < gd x.fst.nP (fun (e : Nat) => x.fst.lenP e) i → x.fst.iO i e = x.fst.iO i e) (by intros; rfl)), (1, .pf (∀ (i e : Nat), e < gd x.fst.nP (fun (e : Nat) => x.fst.lenP e) i → x.fst.iA i e = x.fst.iA i e) (by intros; rfl)), (1, .pf (∀ (i e : Nat), e < gd x.fst.nP (fun (e : Nat) => x.fst.lenP e) i → x.fst.iB i e = x.fst.iB i e) (by intros; rfl))] V.ok)))))))))
    (nN [(1, .pf (IntKind.i64.wrap (x_6 + Int.ofNat 4) = IntKind.i64.wrap (x_6 + Int.ofNat 4)) rfl), (1, .pf (IntKind.u64.wrap s = IntKind.u64.wrap s) rfl), (1, .pf (x_5.lk = x_5.lk) rfl), (1, .pf (x_5.lc = x_5.lc) rfl), (1, .pf (x_5.lo = x_5.lo) rfl), (1, .pf (x_5.ln = x_5.ln) rfl), (1, .pf (x_5.ct = x_5.ct) rfl), (1, .eq 52 52), (1, .le 52 52), (1, .pf (∀ (e : Nat), e < 52 → x_5.g e = x_5.g e) (by intros; rfl)), (1, .pf (∃ (x : Mm), x = (Mm.mk (fun (e : Nat) => x_5.g e) x_5.lk x_5.lc x_5.lo x_5.ln x_5.ct).acc 52 (Int.ofNat 2) (IntKind.i64.wrap (x_6 + Int.ofNat 4)) (IntKind.u64.wrap s)) ⟨_, rfl⟩)]
    (V.any Mm (fun (m' : Mm) => m' = (Mm.mk (fun (e : Nat) => x_5.g e) x_5.lk x_5.lc x_5.lo x_5.ln x_5.ct).acc 52 (Int.ofNat 2) (IntKind.i64.wrap (x_6 + Int.ofNat 4)) (IntKind.u64.wrap s)) fun (x_7 : Mm) => V.need (Int.ofNat 0 ≤ Int.ofNat 0 ∧ Int.ofNat 0 ≤ now)
    (nN [(2, .eqI 0 0)]
    (V.any Int (fun (x : Int) => Int.ofNat 0 ≤ x ∧ x ≤ now) fun (x_8 : Int) => V.br (decide (x_8 < now))
    (nN [(3, .lt2 0 1 0 1)]
    (V.need (Int.ofNat 0 ≤ IntKind.i64.wrap (x_8 + Int.ofNat 1) ∧ IntKind.i64.wrap (x_8 + Int.ofNat 1) ≤ now)
    (V.need ((now - IntKind.i64.wrap (x_8 + Int.ofNat 1)).toNat < (now - x_8).toNat)
    (nN [(2, .pf (IntKind.i64.wrap (x_8 + Int.ofNat 1) = IntKind.i64.wrap (x_8 + Int.ofNat 1)) rfl)] V.ok))))
    (V.need (φWt c t l s now (XWt.mk (Cf.mk (Int.ofNat 1) (Int.ofNat 4) (Int.ofNat 1) (Int.ofNat 4) (Int.ofNat 4) (Int.ofNat 1) (Int.ofNat 1) c.A (Int.ofNat 1) x.fst.nP x.fst.rc x.fst.nU x.fst.cu (fun (e : Nat) => x.fst.lenP e) (fun (e : Nat) => x.fst.FC e) (fun (i e : Nat) => x.fst.iO i e) (fun (i e : Nat) => x.fst.iA i e) (fun (i e : Nat) => x.fst.iB i e) (fun (e : Nat) => x.fst.uP e) (fun (e : Nat) => x.fst.uL e) fun (e : Nat) => x.fst.uD e) x.snd (Mm.mk (fun (e : Nat) => x_7.g e) x_7.lk x_7.lc x_7.lo x_7.ln x_7.ct) x_8))
    (nN [(1, .pf (c.A = c.A) rfl), (1, .pf (x.fst.nP = x.fst.nP) rfl), (1, .pf (x.fst.rc = x.fst.rc) rfl), (1, .pf (x.fst.nU = x.fst.nU) rfl), (1, .pf (x.fst.cu = x.fst.cu) rfl), (1, .pf (x.snd = x.snd) rfl), (1, .pf (x_7.lk = x_7.lk) rfl), (1, .pf (x_7.lc = x_7.lc) rfl), (1, .pf (x_7.lo = x_7.lo) rfl), (1, .pf (x_7.ln = x_7.ln) rfl), (1, .pf (x_7.ct = x_7.ct) rfl), (1, .eq 52 52), (1, .le 52 52), (1, .pf (∀ (e : Nat), e < 52 → x_7.g e = x_7.g e) (by intros; rfl)), (1, .pf (x_8 = x_8) rfl), (1, .pf (x.snd = x.snd) rfl), (1, .le 4 4), (1, .pf (x.fst.rc = x.fst.rc) rfl), (1, .pf (x.fst.nP ≤ x.fst.nP) (Nat.le_refl _)), (1, .pf (∀ (e : Nat), e < x.fst.nP → e = e) (by intros; rfl)), (1, .pf (∀ (e : Nat), e < x.fst.nP → x.fst.lenP e = x.fst.lenP e) (by intros; rfl)), (1, .pf (∀ (e : Nat), e < x.fst.nP → x.fst.FC e = x.fst.FC e) (by intros; rfl)), (1, .pf (x.fst.cu = x.fst.cu) rfl), (1, .pf (x.fst.nU ≤ x.fst.nU) (Nat.le_refl _)), (1, .pf (∀ (e : Nat), e < x.fst.nU → x.fst.uP e = x.fst.uP e) (by intros; rfl)), (1, .pf (∀ (e : Nat), e < x.fst.nU → x.fst.uL e = x.fst.uL e) (by intros; rfl)), (1, .pf (∀ (e : Nat), e < x.fst.nU → x.fst.uD e = x.fst.uD e) (by intros; rfl))]
    (V.need (∀ (i : Nat), gd x.fst.nP x.fst.FC i = gd x.fst.nP (fun (e : Nat) => x.fst.FC e) i ∨ gd x.fst.nP (fun (e : Nat) => x.fst.FC e) i = 0)
    (V.need (∀ (i : Nat), gd x.fst.nP (fun (e : Nat) => x.fst.lenP e) i ≤ gd x.fst.nP (fun (e : Nat) => x.fst.FC e) i ∧ gd x.fst.nP (fun (e : Nat) => x.fst.lenP e) i ≤ gd x.fst.nP x.fst.lenP i)
    (nN [(1, .pf (∀ (i e : Nat), e < gd x.fst.nP (fun (e : Nat) => x.fst.lenP e) i → x.fst.iO i e = x.fst.iO i e) (by intros; rfl)), (1, .pf (∀ (i e : Nat), e < gd x.fst.nP (fun (e : Nat) => x.fst.lenP e) i → x.fst.iA i e = x.fst.iA i e) (by intros; rfl)), (1, .pf (∀ (i e : Nat), e < gd x.fst.nP (fun (e : Nat) => x.fst.lenP e) i → x.fst.iB i e = x.fst.iB i e) (by intros; rfl))] V.ok))))))))))))))
    (nN [(1, .pf (IntKind.i64.wrap (x_4 + Int.ofNat 1) = IntKind.i64.wrap (x_4 + Int.ofNat 1)) rfl), (1, .pf (IntKind.u64.wrap l = IntKind.u64.wrap l) rfl), (1, .pf (x_3.lk = x_3.lk) rfl), (1, .pf (x_3.lc = x_3.lc) rfl), (1, .pf (x_3.lo = x_3.lo) rfl), (1, .pf (x_3.ln = x_3.ln) rfl), (1, .pf (x_3.ct = x_3.ct) rfl), (1, .eq 52 52), (1, .le 52 52), (1, .pf (∀ (e : Nat), e < 52 → x_3.g e = x_3.g e) (by intros; rfl)), (1, .pf (∃ (x : Mm), x = (Mm.mk (fun (e : Nat) => x_3.g e) x_3.lk x_3.lc x_3.lo x_3.ln x_3.ct).acc 52 (Int.ofNat 2) (IntKind.i64.wrap (x_4 + Int.ofNat 1)) (IntKind.u64.wrap l)) ⟨_, rfl⟩)]
    (V.any Mm (fun (m' : Mm) => m' = (Mm.mk (fun (e : Nat) => x_3.g e) x_3.lk x_3.lc x_3.lo x_3.ln x_3.ct).acc 52 (Int.ofNat 2) (IntKind.i64.wrap (x_4 + Int.ofNat 1)) (IntKind.u64.wrap l)) fun (x_5 : Mm) => nN [(33, .lt2 0 1 0 1), (1, .eqI 32 32), (1, .pf (t = t) rfl), (1, .eqI 4 4), (1, .eqI 5 5)]
    (V.need (okAt t (Int.ofNat 4) (Int.ofNat 32) (Int.ofNat 5))
    (nN [(1, .pf (∃ (x : Int), x = Int.ofNat 32 + t * Int.ofNat 5) ⟨_, rfl⟩)]
    (V.any Int (fun (r : Int) => r = Int.ofNat 32 + t * Int.ofNat 5) fun (x_6 : Int) => V.br (decide (x_6 < Int.ofNat 0))
    (nN [(1, .pf (Int.negSucc 0 = Int.negSucc 0) rfl), (1, .pf (IntKind.u64.wrap s = IntKind.u64.wrap s) rfl), (1, .pf (x_5.lk = x_5.lk) rfl), (1, .pf (x_5.lc = x_5.lc) rfl), (1, .pf (x_5.lo = x_5.lo) rfl), (1, .pf (x_5.ln = x_5.ln) rfl), (1, .pf (x_5.ct = x_5.ct) rfl), (1, .eq 52 52), (1, .le 52 52), (1, .pf (∀ (e : Nat), e < 52 → x_5.g e = x_5.g e) (by intros; rfl)), (1, .pf (∃ (x : Mm), x = (Mm.mk (fun (e : Nat) => x_5.g e) x_5.lk x_5.lc x_5.lo x_5.ln x_5.ct).acc 52 (Int.ofNat 2) (Int.negSucc 0) (IntKind.u64.wrap s)) ⟨_, rfl⟩)]
    (V.any Mm (fun (m' : Mm) => m' = (Mm.mk (fun (e : Nat) => x_5.g e) x_5.lk x_5.lc x_5.lo x_5.ln x_5.ct).acc 52 (Int.ofNat 2) (Int.negSucc 0) (IntKind.u64.wrap s)) fun (x_7 : Mm) => V.need (Int.ofNat 0 ≤ Int.ofNat 0 ∧ Int.ofNat 0 ≤ now)
    (nN [(2, .eqI 0 0)]
    (V.any Int (fun (x : Int) => Int.ofNat 0 ≤ x ∧ x ≤ now) fun (x_8 : Int) => V.br (decide (x_8 < now))
    (nN [(3, .lt2 0 1 0 1)]
    (V.need (Int.ofNat 0 ≤ IntKind.i64.wrap (x_8 + Int.ofNat 1) ∧ IntKind.i64.wrap (x_8 + Int.ofNat 1) ≤ now)
    (V.need ((now - IntKind.i64.wrap (x_8 + Int.ofNat 1)).toNat < (now - x_8).toNat)
    (nN [(2, .pf (IntKind.i64.wrap (x_8 + Int.ofNat 1) = IntKind.i64.wrap (x_8 + Int.ofNat 1)) rfl)] V.ok))))
    (V.need (φWt c t l s now (XWt.mk (Cf.mk (Int.ofNat 1) (Int.ofNat 4) (Int.ofNat 1) (Int.ofNat 4) (Int.ofNat 4) (Int.ofNat 1) (Int.ofNat 1) c.A (Int.ofNat 1) x.fst.nP x.fst.rc x.fst.nU x.fst.cu (fun (e : Nat) => x.fst.lenP e) (fun (e : Nat) => x.fst.FC e) (fun (i e : Nat) => x.fst.iO i e) (fun (i e : Nat) => x.fst.iA i e) (fun (i e : Nat) => x.fst.iB i e) (fun (e : Nat) => x.fst.uP e) (fun (e : Nat) => x.fst.uL e) fun (e : Nat) => x.fst.uD e) x.snd (Mm.mk (fun (e : Nat) => x_7.g e) x_7.lk x_7.lc x_7.lo x_7.ln x_7.ct) x_8))
    (nN [(1, .pf (c.A = c.A) rfl), (1, .pf (x.fst.nP = x.fst.nP) rfl), (1, .pf (x.fst.rc = x.fst.rc) rfl), (1, .pf (x.fst.nU = x.fst.nU) rfl), (1, .pf (x.fst.cu = x.fst.cu) rfl), (1, .pf (x.snd = x.snd) rfl), (1, .pf (x_7.lk = x_7.lk) rfl), (1, .pf (x_7.lc = x_7.lc) rfl), (1, .pf (x_7.lo = x_7.lo) rfl), (1, .pf (x_7.ln = x_7.ln) rfl), (1, .pf (x_7.ct = x_7.ct) rfl), (1, .eq 52 52), (1, .le 52 52), (1, .pf (∀ (e : Nat), e < 52 → x_7.g e = x_7.g e) (by intros; rfl)), (1, .pf (x_8 = x_8) rfl), (1, .pf (x.snd = x.snd) rfl), (1, .le 4 4), (1, .pf (x.fst.rc = x.fst.rc) rfl), (1, .pf (x.fst.nP ≤ x.fst.nP) (Nat.le_refl _)), (1, .pf (∀ (e : Nat), e < x.fst.nP → e = e) (by intros; rfl)), (1, .pf (∀ (e : Nat), e < x.fst.nP → x.fst.lenP e = x.fst.lenP e) (by intros; rfl)), (1, .pf (∀ (e : Nat), e < x.fst.nP → x.fst.FC e = x.fst.FC e) (by intros; rfl)), (1, .pf (x.fst.cu = x.fst.cu) rfl), (1, .pf (x.fst.nU ≤ x.fst.nU) (Nat.le_refl _)), (1, .pf (∀ (e : Nat), e < x.fst.nU → x.fst.uP e = x.fst.uP e) (by intros; rfl)), (1, .pf (∀ (e : Nat), e < x.fst.nU → x.fst.uL e = x.fst.uL e) (by intros; rfl)), (1, .pf (∀ (e : Nat), e < x.fst.nU → x.fst.uD e = x.fst.uD e) (by intros; rfl))]
    (V.need (∀ (i : Nat), gd x.fst.nP x.fst.FC i = gd x.fst.nP (fun (e : Nat) => x.fst.FC e) i ∨ gd x.fst.nP (fun (e : Nat) => x.fst.FC e) i = 0)
    (V.need (∀ (i : Nat), gd x.fst.nP (fun (e : Nat) => x.fst.lenP e) i ≤ gd x.fst.nP (fun (e : Nat) => x.fst.FC e) i ∧ gd x.fst.nP (fun (e : Nat) => x.fst.lenP e) i ≤ gd x.fst.nP x.fst.lenP i)
    (nN [(1, .pf (∀ (i e : Nat), e < gd x.fst.nP (fun (e : Nat) => x.fst.lenP e) i → x.fst.iO i e = x.fst.iO i e) (by intros; rfl)), (1, .pf (∀ (i e : Nat), e < gd x.fst.nP (fun (e : Nat) => x.fst.lenP e) i → x.fst.iA i e = x.fst.iA i e) (by intros; rfl)), (1, .pf (∀ (i e : Nat), e < gd x.fst.nP (fun (e : Nat) => x.fst.lenP e) i → x.fst.iB i e = x.fst.iB i e) (by intros; rfl))] V.ok)))))))))
    (nN [(1, .pf (IntKind.i64.wrap (x_6 + Int.ofNat 4) = IntKind.i64.wrap (x_6 + Int.ofNat 4)) rfl), (1, .pf (IntKind.u64.wrap s = IntKind.u64.wrap s) rfl), (1, .pf (x_5.lk = x_5.lk) rfl), (1, .pf (x_5.lc = x_5.lc) rfl), (1, .pf (x_5.lo = x_5.lo) rfl), (1, .pf (x_5.ln = x_5.ln) rfl), (1, .pf (x_5.ct = x_5.ct) rfl), (1, .eq 52 52), (1, .le 52 52), (1, .pf (∀ (e : Nat), e < 52 → x_5.g e = x_5.g e) (by intros; rfl)), (1, .pf (∃ (x : Mm), x = (Mm.mk (fun (e : Nat) => x_5.g e) x_5.lk x_5.lc x_5.lo x_5.ln x_5.ct).acc 52 (Int.ofNat 2) (IntKind.i64.wrap (x_6 + Int.ofNat 4)) (IntKind.u64.wrap s)) ⟨_, rfl⟩)]
    (V.any Mm (fun (m' : Mm) => m' = (Mm.mk (fun (e : Nat) => x_5.g e) x_5.lk x_5.lc x_5.lo x_5.ln x_5.ct).acc 52 (Int.ofNat 2) (IntKind.i64.wrap (x_6 + Int.ofNat 4)) (IntKind.u64.wrap s)) fun (x_7 : Mm) => V.need (Int.ofNat 0 ≤ Int.ofNat 0 ∧ Int.ofNat 0 ≤ now)
    (nN [(2, .eqI 0 0)]
    (V.any Int (fun (x : Int) => Int.ofNat 0 ≤ x ∧ x ≤ now) fun (x_8 : Int) => V.br (decide (x_8 < now))
    (nN [(3, .lt2 0 1 0 1)]
    (V.need (Int.ofNat 0 ≤ IntKind.i64.wrap (x_8 + Int.ofNat 1) ∧ IntKind.i64.wrap (x_8 + Int.ofNat 1) ≤ now)
    (V.need ((now - IntKind.i64.wrap (x_8 + Int.ofNat 1)).toNat < (now - x_8).toNat)
    (nN [(2, .pf (IntKind.i64.wrap (x_8 + Int.ofNat 1) = IntKind.i64.wrap (x_8 + Int.ofNat 1)) rfl)] V.ok))))
    (V.need (φWt c t l s now (XWt.mk (Cf.mk (Int.ofNat 1) (Int.ofNat 4) (Int.ofNat 1) (Int.ofNat 4) (Int.ofNat 4) (Int.ofNat 1) (Int.ofNat 1) c.A (Int.ofNat 1) x.fst.nP x.fst.rc x.fst.nU x.fst.cu (fun (e : Nat) => x.fst.lenP e) (fun (e : Nat) => x.fst.FC e) (fun (i e : Nat) => x.fst.iO i e) (fun (i e : Nat) => x.fst.iA i e) (fun (i e : Nat) => x.fst.iB i e) (fun (e : Nat) => x.fst.uP e) (fun (e : Nat) => x.fst.uL e) fun (e : Nat) => x.fst.uD e) x.snd (Mm.mk (fun (e : Nat) => x_7.g e) x_7.lk x_7.lc x_7.lo x_7.ln x_7.ct) x_8))
    (nN [(1, .pf (c.A = c.A) rfl), (1, .pf (x.fst.nP = x.fst.nP) rfl), (1, .pf (x.fst.rc = x.fst.rc) rfl), (1, .pf (x.fst.nU = x.fst.nU) rfl), (1, .pf (x.fst.cu = x.fst.cu) rfl), (1, .pf (x.snd = x.snd) rfl), (1, .pf (x_7.lk = x_7.lk) rfl), (1, .pf (x_7.lc = x_7.lc) rfl), (1, .pf (x_7.lo = x_7.lo) rfl), (1, .pf (x_7.ln = x_7.ln) rfl), (1, .pf (x_7.ct = x_7.ct) rfl), (1, .eq 52 52), (1, .le 52 52), (1, .pf (∀ (e : Nat), e < 52 → x_7.g e = x_7.g e) (by intros; rfl)), (1, .pf (x_8 = x_8) rfl), (1, .pf (x.snd = x.snd) rfl), (1, .le 4 4), (1, .pf (x.fst.rc = x.fst.rc) rfl), (1, .pf (x.fst.nP ≤ x.fst.nP) (Nat.le_refl _)), (1, .pf (∀ (e : Nat), e < x.fst.nP → e = e) (by intros; rfl)), (1, .pf (∀ (e : Nat), e < x.fst.nP → x.fst.lenP e = x.fst.lenP e) (by intros; rfl)), (1, .pf (∀ (e : Nat), e < x.fst.nP → x.fst.FC e = x.fst.FC e) (by intros; rfl)), (1, .pf (x.fst.cu = x.fst.cu) rfl), (1, .pf (x.fst.nU ≤ x.fst.nU) (Nat.le_refl _)), (1, .pf (∀ (e : Nat), e < x.fst.nU → x.fst.uP e = x.fst.uP e) (by intros; rfl)), (1, .pf (∀ (e : Nat), e < x.fst.nU → x.fst.uL e = x.fst.uL e) (by intros; rfl)), (1, .pf (∀ (e : Nat), e < x.fst.nU → x.fst.uD e = x.fst.uD e) (by intros; rfl))]
    (V.need (∀ (i : Nat), gd x.fst.nP x.fst.FC i = gd x.fst.nP (fun (e : Nat) => x.fst.FC e) i ∨ gd x.fst.nP (fun (e : Nat) => x.fst.FC e) i = 0)
    (V.need (∀ (i : Nat), gd x.fst.nP (fun (e : Nat) => x.fst.lenP e) i ≤ gd x.fst.nP (fun (e : Nat) => x.fst.FC e) i ∧ gd x.fst.nP (fun (e : Nat) => x.fst.lenP e) i ≤ gd x.fst.nP x.fst.lenP i)
    (nN [(1, .pf (∀ (i e : Nat), e < gd x.fst.nP (fun (e : Nat) => x.fst.lenP e) i → x.fst.iO i e = x.fst.iO i e) (by intros; rfl)), (1, .pf (∀ (i e : Nat), e < gd x.fst.nP (fun (e : Nat) => x.fst.lenP e) i → x.fst.iA i e = x.fst.iA i e) (by intros; rfl)), (1, .pf (∀ (i e : Nat), e < gd x.fst.nP (fun (e : Nat) => x.fst.lenP e) i → x.fst.iB i e = x.fst.iB i e) (by intros; rfl))] V.ok)))))))))))))))))))
    (nN [(1, .pf (IntKind.i64.wrap (x_2 + Int.ofNat 0) = IntKind.i64.wrap (x_2 + Int.ofNat 0)) rfl), (1, .eqI 1 1), (5, .eqI 0 0), (1, .eq 52 52), (1, .le 52 52), (1, .pf (∀ (e : Nat), e < 52 → Int.ofNat 0 = Int.ofNat 0) (by intros; rfl)), (1, .pf (∃ (x : Mm), x = (Mm.mk (fun (e : Nat) => Int.ofNat 0) (Int.ofNat 0) (Int.ofNat 0) (Int.ofNat 0) (Int.ofNat 0) (Int.ofNat 0)).acc 52 (Int.ofNat 2) (IntKind.i64.wrap (x_2 + Int.ofNat 0)) (Int.ofNat 1)) ⟨_, rfl⟩)]
    (V.any Mm (fun (m' : Mm) => m' = (Mm.mk (fun (e : Nat) => Int.ofNat 0) (Int.ofNat 0) (Int.ofNat 0) (Int.ofNat 0) (Int.ofNat 0) (Int.ofNat 0)).acc 52 (Int.ofNat 2) (IntKind.i64.wrap (x_2 + Int.ofNat 0)) (Int.ofNat 1)) fun (x_3 : Mm) => nN [(33, .lt2 0 1 0 1), (1, .eqI 32 32), (1, .pf (t = t) rfl), (1, .eqI 4 4), (1, .eqI 5 5)]
    (V.need (okAt t (Int.ofNat 4) (Int.ofNat 32) (Int.ofNat 5))
    (nN [(1, .pf (∃ (x : Int), x = Int.ofNat 32 + t * Int.ofNat 5) ⟨_, rfl⟩)]
    (V.any Int (fun (r : Int) => r = Int.ofNat 32 + t * Int.ofNat 5) fun (x_4 : Int) => V.br (decide (x_4 < Int.ofNat 0))
    (nN [(1, .pf (Int.negSucc 0 = Int.negSucc 0) rfl), (1, .pf (IntKind.u64.wrap l = IntKind.u64.wrap l) rfl), (1, .pf (x_3.lk = x_3.lk) rfl), (1, .pf (x_3.lc = x_3.lc) rfl), (1, .pf (x_3.lo = x_3.lo) rfl), (1, .pf (x_3.ln = x_3.ln) rfl), (1, .pf (x_3.ct = x_3.ct) rfl), (1, .eq 52 52), (1, .le 52 52), (1, .pf (∀ (e : Nat), e < 52 → x_3.g e = x_3.g e) (by intros; rfl)), (1, .pf (∃ (x : Mm), x = (Mm.mk (fun (e : Nat) => x_3.g e) x_3.lk x_3.lc x_3.lo x_3.ln x_3.ct).acc 52 (Int.ofNat 2) (Int.negSucc 0) (IntKind.u64.wrap l)) ⟨_, rfl⟩)]
    (V.any Mm (fun (m' : Mm) => m' = (Mm.mk (fun (e : Nat) => x_3.g e) x_3.lk x_3.lc x_3.lo x_3.ln x_3.ct).acc 52 (Int.ofNat 2) (Int.negSucc 0) (IntKind.u64.wrap l)) fun (x_5 : Mm) => nN [(33, .lt2 0 1 0 1), (1, .eqI 32 32), (1, .pf (t = t) rfl), (1, .eqI 4 4), (1, .eqI 5 5)]
    (V.need (okAt t (Int.ofNat 4) (Int.ofNat 32) (Int.ofNat 5))
    (nN [(1, .pf (∃ (x : Int), x = Int.ofNat 32 + t * Int.ofNat 5) ⟨_, rfl⟩)]
    (V.any Int (fun (r : Int) => r = Int.ofNat 32 + t * Int.ofNat 5) fun (x_6 : Int) => V.br (decide (x_6 < Int.ofNat 0))
    (nN [(1, .pf (Int.negSucc 0 = Int.negSucc 0) rfl), (1, .pf (IntKind.u64.wrap s = IntKind.u64.wrap s) rfl), (1, .pf (x_5.lk = x_5.lk) rfl), (1, .pf (x_5.lc = x_5.lc) rfl), (1, .pf (x_5.lo = x_5.lo) rfl), (1, .pf (x_5.ln = x_5.ln) rfl), (1, .pf (x_5.ct = x_5.ct) rfl), (1, .eq 52 52), (1, .le 52 52), (1, .pf (∀ (e : Nat), e < 52 → x_5.g e = x_5.g e) (by intros; rfl)), (1, .pf (∃ (x : Mm), x = (Mm.mk (fun (e : Nat) => x_5.g e) x_5.lk x_5.lc x_5.lo x_5.ln x_5.ct).acc 52 (Int.ofNat 2) (Int.negSucc 0) (IntKind.u64.wrap s)) ⟨_, rfl⟩)]
    (V.any Mm (fun (m' : Mm) => m' = (Mm.mk (fun (e : Nat) => x_5.g e) x_5.lk x_5.lc x_5.lo x_5.ln x_5.ct).acc 52 (Int.ofNat 2) (Int.negSucc 0) (IntKind.u64.wrap s)) fun (x_7 : Mm) => V.need (Int.ofNat 0 ≤ Int.ofNat 0 ∧ Int.ofNat 0 ≤ now)
    (nN [(2, .eqI 0 0)]
    (V.any Int (fun (x : Int) => Int.ofNat 0 ≤ x ∧ x ≤ now) fun (x_8 : Int) => V.br (decide (x_8 < now))
    (nN [(3, .lt2 0 1 0 1)]
    (V.need (Int.ofNat 0 ≤ IntKind.i64.wrap (x_8 + Int.ofNat 1) ∧ IntKind.i64.wrap (x_8 + Int.ofNat 1) ≤ now)
    (V.need ((now - IntKind.i64.wrap (x_8 + Int.ofNat 1)).toNat < (now - x_8).toNat)
    (nN [(2, .pf (IntKind.i64.wrap (x_8 + Int.ofNat 1) = IntKind.i64.wrap (x_8 + Int.ofNat 1)) rfl)] V.ok))))
    (V.need (φWt c t l s now (XWt.mk (Cf.mk (Int.ofNat 1) (Int.ofNat 4) (Int.ofNat 1) (Int.ofNat 4) (Int.ofNat 4) (Int.ofNat 1) (Int.ofNat 1) c.A (Int.ofNat 1) x.fst.nP x.fst.rc x.fst.nU x.fst.cu (fun (e : Nat) => x.fst.lenP e) (fun (e : Nat) => x.fst.FC e) (fun (i e : Nat) => x.fst.iO i e) (fun (i e : Nat) => x.fst.iA i e) (fun (i e : Nat) => x.fst.iB i e) (fun (e : Nat) => x.fst.uP e) (fun (e : Nat) => x.fst.uL e) fun (e : Nat) => x.fst.uD e) x.snd (Mm.mk (fun (e : Nat) => x_7.g e) x_7.lk x_7.lc x_7.lo x_7.ln x_7.ct) x_8))
    (nN [(1, .pf (c.A = c.A) rfl), (1, .pf (x.fst.nP = x.fst.nP) rfl), (1, .pf (x.fst.rc = x.fst.rc) rfl), (1, .pf (x.fst.nU = x.fst.nU) rfl), (1, .pf (x.fst.cu = x.fst.cu) rfl), (1, .pf (x.snd = x.snd) rfl), (1, .pf (x_7.lk = x_7.lk) rfl), (1, .pf (x_7.lc = x_7.lc) rfl), (1, .pf (x_7.lo = x_7.lo) rfl), (1, .pf (x_7.ln = x_7.ln) rfl), (1, .pf (x_7.ct = x_7.ct) rfl), (1, .eq 52 52), (1, .le 52 52), (1, .pf (∀ (e : Nat), e < 52 → x_7.g e = x_7.g e) (by intros; rfl)), (1, .pf (x_8 = x_8) rfl), (1, .pf (x.snd = x.snd) rfl), (1, .le 4 4), (1, .pf (x.fst.rc = x.fst.rc) rfl), (1, .pf (x.fst.nP ≤ x.fst.nP) (Nat.le_refl _)), (1, .pf (∀ (e : Nat), e < x.fst.nP → e = e) (by intros; rfl)), (1, .pf (∀ (e : Nat), e < x.fst.nP → x.fst.lenP e = x.fst.lenP e) (by intros; rfl)), (1, .pf (∀ (e : Nat), e < x.fst.nP → x.fst.FC e = x.fst.FC e) (by intros; rfl)), (1, .pf (x.fst.cu = x.fst.cu) rfl), (1, .pf (x.fst.nU ≤ x.fst.nU) (Nat.le_refl _)), (1, .pf (∀ (e : Nat), e < x.fst.nU → x.fst.uP e = x.fst.uP e) (by intros; rfl)), (1, .pf (∀ (e : Nat), e < x.fst.nU → x.fst.uL e = x.fst.uL e) (by intros; rfl)), (1, .pf (∀ (e : Nat), e < x.fst.nU → x.fst.uD e = x.fst.uD e) (by intros; rfl))]
    (V.need (∀ (i : Nat), gd x.fst.nP x.fst.FC i = gd x.fst.nP (fun (e : Nat) => x.fst.FC e) i ∨ gd x.fst.nP (fun (e : Nat) => x.fst.FC e) i = 0)
    (V.need (∀ (i : Nat), gd x.fst.nP (fun (e : Nat) => x.fst.lenP e) i ≤ gd x.fst.nP (fun (e : Nat) => x.fst.FC e) i ∧ gd x.fst.nP (fun (e : Nat) => x.fst.lenP e) i ≤ gd x.fst.nP x.fst.lenP i)
    (nN [(1, .pf (∀ (i e : Nat), e < gd x.fst.nP (fun (e : Nat) => x.fst.lenP e) i → x.fst.iO i e = x.fst.iO i e) (by intros; rfl)), (1, .pf (∀ (i e : Nat), e < gd x.fst.nP (fun (e : Nat) => x.fst.lenP e) i → x.fst.iA i e = x.fst.iA i e) (by intros; rfl)), (1, .pf (∀ (i e : Nat), e < gd x.fst.nP (fun (e : Nat) => x.fst.lenP e) i → x.fst.iB i e = x.fst.iB i e) (by intros; rfl))] V.ok)))))))))
    (nN [(1, .pf (IntKind.i64.wrap (x_6 + Int.ofNat 4) = IntKind.i64.wrap (x_6 + Int.ofNat 4)) rfl), (1, .pf (IntKind.u64.wrap s = IntKind.u64.wrap s) rfl), (1, .pf (x_5.lk = x_5.lk) rfl), (1, .pf (x_5.lc = x_5.lc) rfl), (1, .pf (x_5.lo = x_5.lo) rfl), (1, .pf (x_5.ln = x_5.ln) rfl), (1, .pf (x_5.ct = x_5.ct) rfl), (1, .eq 52 52), (1, .le 52 52), (1, .pf (∀ (e : Nat), e < 52 → x_5.g e = x_5.g e) (by intros; rfl)), (1, .pf (∃ (x : Mm), x = (Mm.mk (fun (e : Nat) => x_5.g e) x_5.lk x_5.lc x_5.lo x_5.ln x_5.ct).acc 52 (Int.ofNat 2) (IntKind.i64.wrap (x_6 + Int.ofNat 4)) (IntKind.u64.wrap s)) ⟨_, rfl⟩)]
    (V.any Mm (fun (m' : Mm) => m' = (Mm.mk (fun (e : Nat) => x_5.g e) x_5.lk x_5.lc x_5.lo x_5.ln x_5.ct).acc 52 (Int.ofNat 2) (IntKind.i64.wrap (x_6 + Int.ofNat 4)) (IntKind.u64.wrap s)) fun (x_7 : Mm) => V.need (Int.ofNat 0 ≤ Int.ofNat 0 ∧ Int.ofNat 0 ≤ now)
    (nN [(2, .eqI 0 0)]
    (V.any Int (fun (x : Int) => Int.ofNat 0 ≤ x ∧ x ≤ now) fun (x_8 : Int) => V.br (decide (x_8 < now))
    (nN [(3, .lt2 0 1 0 1)]
    (V.need (Int.ofNat 0 ≤ IntKind.i64.wrap (x_8 + Int.ofNat 1) ∧ IntKind.i64.wrap (x_8 + Int.ofNat 1) ≤ now)
    (V.need ((now - IntKind.i64.wrap (x_8 + Int.ofNat 1)).toNat < (now - x_8).toNat)
    (nN [(2, .pf (IntKind.i64.wrap (x_8 + Int.ofNat 1) = IntKind.i64.wrap (x_8 + Int.ofNat 1)) rfl)] V.ok))))
    (V.need (φWt c t l s now (XWt.mk (Cf.mk (Int.ofNat 1) (Int.ofNat 4) (Int.ofNat 1) (Int.ofNat 4) (Int.ofNat 4) (Int.ofNat 1) (Int.ofNat 1) c.A (Int.ofNat 1) x.fst.nP x.fst.rc x.fst.nU x.fst.cu (fun (e : Nat) => x.fst.lenP e) (fun (e : Nat) => x.fst.FC e) (fun (i e : Nat) => x.fst.iO i e) (fun (i e : Nat) => x.fst.iA i e) (fun (i e : Nat) => x.fst.iB i e) (fun (e : Nat) => x.fst.uP e) (fun (e : Nat) => x.fst.uL e) fun (e : Nat) => x.fst.uD e) x.snd (Mm.mk (fun (e : Nat) => x_7.g e) x_7.lk x_7.lc x_7.lo x_7.ln x_7.ct) x_8))
    (nN [(1, .pf (c.A = c.A) rfl), (1, .pf (x.fst.nP = x.fst.nP) rfl), (1, .pf (x.fst.rc = x.fst.rc) rfl), (1, .pf (x.fst.nU = x.fst.nU) rfl), (1, .pf (x.fst.cu = x.fst.cu) rfl), (1, .pf (x.snd = x.snd) rfl), (1, .pf (x_7.lk = x_7.lk) rfl), (1, .pf (x_7.lc = x_7.lc) rfl), (1, .pf (x_7.lo = x_7.lo) rfl), (1, .pf (x_7.ln = x_7.ln) rfl), (1, .pf (x_7.ct = x_7.ct) rfl), (1, .eq 52 52), (1, .le 52 52), (1, .pf (∀ (e : Nat), e < 52 → x_7.g e = x_7.g e) (by intros; rfl)), (1, .pf (x_8 = x_8) rfl), (1, .pf (x.snd = x.snd) rfl), (1, .le 4 4), (1, .pf (x.fst.rc = x.fst.rc) rfl), (1, .pf (x.fst.nP ≤ x.fst.nP) (Nat.le_refl _)), (1, .pf (∀ (e : Nat), e < x.fst.nP → e = e) (by intros; rfl)), (1, .pf (∀ (e : Nat), e < x.fst.nP → x.fst.lenP e = x.fst.lenP e) (by intros; rfl)), (1, .pf (∀ (e : Nat), e < x.fst.nP → x.fst.FC e = x.fst.FC e) (by intros; rfl)), (1, .pf (x.fst.cu = x.fst.cu) rfl), (1, .pf (x.fst.nU ≤ x.fst.nU) (Nat.le_refl _)), (1, .pf (∀ (e : Nat), e < x.fst.nU → x.fst.uP e = x.fst.uP e) (by intros; rfl)), (1, .pf (∀ (e : Nat), e < x.fst.nU → x.fst.uL e = x.fst.uL e) (by intros; rfl)), (1, .pf (∀ (e : Nat), e < x.fst.nU → x.fst.uD e = x.fst.uD e) (by intros; rfl))]
    (V.need (∀ (i : Nat), gd x.fst.nP x.fst.FC i = gd x.fst.nP (fun (e : Nat) => x.fst.FC e) i ∨ gd x.fst.nP (fun (e : Nat) => x.fst.FC e) i = 0)
    (V.need (∀ (i : Nat), gd x.fst.nP (fun (e : Nat) => x.fst.lenP e) i ≤ gd x.fst.nP (fun (e : Nat) => x.fst.FC e) i ∧ gd x.fst.nP (fun (e : Nat) => x.fst.lenP e) i ≤ gd x.fst.nP x.fst.lenP i)
    (nN [(1, .pf (∀ (i e : Nat), e < gd x.fst.nP (fun (e : Nat) => x.fst.lenP e) i → x.fst.iO i e = x.fst.iO i e) (by intros; rfl)), (1, .pf (∀ (i e : Nat), e < gd x.fst.nP (fun (e : Nat) => x.fst.lenP e) i → x.fst.iA i e = x.fst.iA i e) (by intros; rfl)), (1, .pf (∀ (i e : Nat), e < gd x.fst.nP (fun (e : Nat) => x.fst.lenP e) i → x.fst.iB i e = x.fst.iB i e) (by intros; rfl))] V.ok))))))))))))))
    (nN [(1, .pf (IntKind.i64.wrap (x_4 + Int.ofNat 1) = IntKind.i64.wrap (x_4 + Int.ofNat 1)) rfl), (1, .pf (IntKind.u64.wrap l = IntKind.u64.wrap l) rfl), (1, .pf (x_3.lk = x_3.lk) rfl), (1, .pf (x_3.lc = x_3.lc) rfl), (1, .pf (x_3.lo = x_3.lo) rfl), (1, .pf (x_3.ln = x_3.ln) rfl), (1, .pf (x_3.ct = x_3.ct) rfl), (1, .eq 52 52), (1, .le 52 52), (1, .pf (∀ (e : Nat), e < 52 → x_3.g e = x_3.g e) (by intros; rfl)), (1, .pf (∃ (x : Mm), x = (Mm.mk (fun (e : Nat) => x_3.g e) x_3.lk x_3.lc x_3.lo x_3.ln x_3.ct).acc 52 (Int.ofNat 2) (IntKind.i64.wrap (x_4 + Int.ofNat 1)) (IntKind.u64.wrap l)) ⟨_, rfl⟩)]
    (V.any Mm (fun (m' : Mm) => m' = (Mm.mk (fun (e : Nat) => x_3.g e) x_3.lk x_3.lc x_3.lo x_3.ln x_3.ct).acc 52 (Int.ofNat 2) (IntKind.i64.wrap (x_4 + Int.ofNat 1)) (IntKind.u64.wrap l)) fun (x_5 : Mm) => nN [(33, .lt2 0 1 0 1), (1, .eqI 32 32), (1, .pf (t = t) rfl), (1, .eqI 4 4), (1, .eqI 5 5)]
    (V.need (okAt t (Int.ofNat 4) (Int.ofNat 32) (Int.ofNat 5))
    (nN [(1, .pf (∃ (x : Int), x = Int.ofNat 32 + t * Int.ofNat 5) ⟨_, rfl⟩)]
    (V.any Int (fun (r : Int) => r = Int.ofNat 32 + t * Int.ofNat 5) fun (x_6 : Int) => V.br (decide (x_6 < Int.ofNat 0))
    (nN [(1, .pf (Int.negSucc 0 = Int.negSucc 0) rfl), (1, .pf (IntKind.u64.wrap s = IntKind.u64.wrap s) rfl), (1, .pf (x_5.lk = x_5.lk) rfl), (1, .pf (x_5.lc = x_5.lc) rfl), (1, .pf (x_5.lo = x_5.lo) rfl), (1, .pf (x_5.ln = x_5.ln) rfl), (1, .pf (x_5.ct = x_5.ct) rfl), (1, .eq 52 52), (1, .le 52 52), (1, .pf (∀ (e : Nat), e < 52 → x_5.g e = x_5.g e) (by intros; rfl)), (1, .pf (∃ (x : Mm), x = (Mm.mk (fun (e : Nat) => x_5.g e) x_5.lk x_5.lc x_5.lo x_5.ln x_5.ct).acc 52 (Int.ofNat 2) (Int.negSucc 0) (IntKind.u64.wrap s)) ⟨_, rfl⟩)]
    (V.any Mm (fun (m' : Mm) => m' = (Mm.mk (fun (e : Nat) => x_5.g e) x_5.lk x_5.lc x_5.lo x_5.ln x_5.ct).acc 52 (Int.ofNat 2) (Int.negSucc 0) (IntKind.u64.wrap s)) fun (x_7 : Mm) => V.need (Int.ofNat 0 ≤ Int.ofNat 0 ∧ Int.ofNat 0 ≤ now)
    (nN [(2, .eqI 0 0)]
    (V.any Int (fun (x : Int) => Int.ofNat 0 ≤ x ∧ x ≤ now) fun (x_8 : Int) => V.br (decide (x_8 < now))
    (nN [(3, .lt2 0 1 0 1)]
    (V.need (Int.ofNat 0 ≤ IntKind.i64.wrap (x_8 + Int.ofNat 1) ∧ IntKind.i64.wrap (x_8 + Int.ofNat 1) ≤ now)
    (V.need ((now - IntKind.i64.wrap (x_8 + Int.ofNat 1)).toNat < (now - x_8).toNat)
    (nN [(2, .pf (IntKind.i64.wrap (x_8 + Int.ofNat 1) = IntKind.i64.wrap (x_8 + Int.ofNat 1)) rfl)] V.ok))))
    (V.need (φWt c t l s now (XWt.mk (Cf.mk (Int.ofNat 1) (Int.ofNat 4) (Int.ofNat 1) (Int.ofNat 4) (Int.ofNat 4) (Int.ofNat 1) (Int.ofNat 1) c.A (Int.ofNat 1) x.fst.nP x.fst.rc x.fst.nU x.fst.cu (fun (e : Nat) => x.fst.lenP e) (fun (e : Nat) => x.fst.FC e) (fun (i e : Nat) => x.fst.iO i e) (fun (i e : Nat) => x.fst.iA i e) (fun (i e : Nat) => x.fst.iB i e) (fun (e : Nat) => x.fst.uP e) (fun (e : Nat) => x.fst.uL e) fun (e : Nat) => x.fst.uD e) x.snd (Mm.mk (fun (e : Nat) => x_7.g e) x_7.lk x_7.lc x_7.lo x_7.ln x_7.ct) x_8))
    (nN [(1, .pf (c.A = c.A) rfl), (1, .pf (x.fst.nP = x.fst.nP) rfl), (1, .pf (x.fst.rc = x.fst.rc) rfl), (1, .pf (x.fst.nU = x.fst.nU) rfl), (1, .pf (x.fst.cu = x.fst.cu) rfl), (1, .pf (x.snd = x.snd) rfl), (1, .pf (x_7.lk = x_7.lk) rfl), (1, .pf (x_7.lc = x_7.lc) rfl), (1, .pf (x_7.lo = x_7.lo) rfl), (1, .pf (x_7.ln = x_7.ln) rfl), (1, .pf (x_7.ct = x_7.ct) rfl), (1, .eq 52 52), (1, .le 52 52), (1, .pf (∀ (e : Nat), e < 52 → x_7.g e = x_7.g e) (by intros; rfl)), (1, .pf (x_8 = x_8) rfl), (1, .pf (x.snd = x.snd) rfl), (1, .le 4 4), (1, .pf (x.fst.rc = x.fst.rc) rfl), (1, .pf (x.fst.nP ≤ x.fst.nP) (Nat.le_refl _)), (1, .pf (∀ (e : Nat), e < x.fst.nP → e = e) (by intros; rfl)), (1, .pf (∀ (e : Nat), e < x.fst.nP → x.fst.lenP e = x.fst.lenP e) (by intros; rfl)), (1, .pf (∀ (e : Nat), e < x.fst.nP → x.fst.FC e = x.fst.FC e) (by intros; rfl)), (1, .pf (x.fst.cu = x.fst.cu) rfl), (1, .pf (x.fst.nU ≤ x.fst.nU) (Nat.le_refl _)), (1, .pf (∀ (e : Nat), e < x.fst.nU → x.fst.uP e = x.fst.uP e) (by intros; rfl)), (1, .pf (∀ (e : Nat), e < x.fst.nU → x.fst.uL e = x.fst.uL e) (by intros; rfl)), (1, .pf (∀ (e : Nat), e < x.fst.nU → x.fst.uD e = x.fst.uD e) (by intros; rfl))]
    (V.need (∀ (i : Nat), gd x.fst.nP x.fst.FC i = gd x.fst.nP (fun (e : Nat) => x.fst.FC e) i ∨ gd x.fst.nP (fun (e : Nat) => x.fst.FC e) i = 0)
    (V.need (∀ (i : Nat), gd x.fst.nP (fun (e : Nat) => x.fst.lenP e) i ≤ gd x.fst.nP (fun (e : Nat) => x.fst.FC e) i ∧ gd x.fst.nP (fun (e : Nat) => x.fst.lenP e) i ≤ gd x.fst.nP x.fst.lenP i)
    (nN [(1, .pf (∀ (i e : Nat), e < gd x.fst.nP (fun (e : Nat) => x.fst.lenP e) i → x.fst.iO i e = x.fst.iO i e) (by intros; rfl)), (1, .pf (∀ (i e : Nat), e < gd x.fst.nP (fun (e : Nat) => x.fst.lenP e) i → x.fst.iA i e = x.fst.iA i e) (by intros; rfl)), (1, .pf (∀ (i e : Nat), e < gd x.fst.nP (fun (e : Nat) => x.fst.lenP e) i → x.fst.iB i e = x.fst.iB i e) (by intros; rfl))] V.ok)))))))))
    (nN [(1, .pf (IntKind.i64.wrap (x_6 + Int.ofNat 4) = IntKind.i64.wrap (x_6 + Int.ofNat 4)) rfl), (1, .pf (IntKind.u64.wrap s = IntKind.u64.wrap s) rfl), (1, .pf (x_5.lk = x_5.lk) rfl), (1, .pf (x_5.lc = x_5.lc) rfl), (1, .pf (x_5.lo = x_5.lo) rfl), (1, .pf (x_5.ln = x_5.ln) rfl), (1, .pf (x_5.ct = x_5.ct) rfl), (1, .eq 52 52), (1, .le 52 52), (1, .pf (∀ (e : Nat), e < 52 → x_5.g e = x_5.g e) (by intros; rfl)), (1, .pf (∃ (x : Mm), x = (Mm.mk (fun (e : Nat) => x_5.g e) x_5.lk x_5.lc x_5.lo x_5.ln x_5.ct).acc 52 (Int.ofNat 2) (IntKind.i64.wrap (x_6 + Int.ofNat 4)) (IntKind.u64.wrap s)) ⟨_, rfl⟩)]
    (V.any Mm (fun (m' : Mm) => m' = (Mm.mk (fun (e : Nat) => x_5.g e) x_5.lk x_5.lc x_5.lo x_5.ln x_5.ct).acc 52 (Int.ofNat 2) (IntKind.i64.wrap (x_6 + Int.ofNat 4)) (IntKind.u64.wrap s)) fun (x_7 : Mm) => V.need (Int.ofNat 0 ≤ Int.ofNat 0 ∧ Int.ofNat 0 ≤ now)
    (nN [(2, .eqI 0 0)]
    (V.any Int (fun (x : Int) => Int.ofNat 0 ≤ x ∧ x ≤ now) fun (x_8 : Int) => V.br (decide (x_8 < now))
    (nN [(3, .lt2 0 1 0 1)]
    (V.need (Int.ofNat 0 ≤ IntKind.i64.wrap (x_8 + Int.ofNat 1) ∧ IntKind.i64.wrap (x_8 + Int.ofNat 1) ≤ now)
    (V.need ((now - IntKind.i64.wrap (x_8 + Int.ofNat 1)).toNat < (now - x_8).toNat)
    (nN [(2, .pf (IntKind.i64.wrap (x_8 + Int.ofNat 1) = IntKind.i64.wrap (x_8 + Int.ofNat 1)) rfl)] V.ok))))
    (V.need (φWt c t l s now (XWt.mk (Cf.mk (Int.ofNat 1) (Int.ofNat 4) (Int.ofNat 1) (Int.ofNat 4) (Int.ofNat 4) (Int.ofNat 1) (Int.ofNat 1) c.A (Int.ofNat 1) x.fst.nP x.fst.rc x.fst.nU x.fst.cu (fun (e : Nat) => x.fst.lenP e) (fun (e : Nat) => x.fst.FC e) (fun (i e : Nat) => x.fst.iO i e) (fun (i e : Nat) => x.fst.iA i e) (fun (i e : Nat) => x.fst.iB i e) (fun (e : Nat) => x.fst.uP e) (fun (e : Nat) => x.fst.uL e) fun (e : Nat) => x.fst.uD e) x.snd (Mm.mk (fun (e : Nat) => x_7.g e) x_7.lk x_7.lc x_7.lo x_7.ln x_7.ct) x_8))
    (nN [(1, .pf (c.A = c.A) rfl), (1, .pf (x.fst.nP = x.fst.nP) rfl), (1, .pf (x.fst.rc = x.fst.rc) rfl), (1, .pf (x.fst.nU = x.fst.nU) rfl), (1, .pf (x.fst.cu = x.fst.cu) rfl), (1, .pf (x.snd = x.snd) rfl), (1, .pf (x_7.lk = x_7.lk) rfl), (1, .pf (x_7.lc = x_7.lc) rfl), (1, .pf (x_7.lo = x_7.lo) rfl), (1, .pf (x_7.ln = x_7.ln) rfl), (1, .pf (x_7.ct = x_7.ct) rfl), (1, .eq 52 52), (1, .le 52 52), (1, .pf (∀ (e : Nat), e < 52 → x_7.g e = x_7.g e) (by intros; rfl)), (1, .pf (x_8 = x_8) rfl), (1, .pf (x.snd = x.snd) rfl), (1, .le 4 4), (1, .pf (x.fst.rc = x.fst.rc) rfl), (1, .pf (x.fst.nP ≤ x.fst.nP) (Nat.le_refl _)), (1, .pf (∀ (e : Nat), e < x.fst.nP → e = e) (by intros; rfl)), (1, .pf (∀ (e : Nat), e < x.fst.nP → x.fst.lenP e = x.fst.lenP e) (by intros; rfl)), (1, .pf (∀ (e : Nat), e < x.fst.nP → x.fst.FC e = x.fst.FC e) (by intros; rfl)), (1, .pf (x.fst.cu = x.fst.cu) rfl), (1, .pf (x.fst.nU ≤ x.fst.nU) (Nat.le_refl _)), (1, .pf (∀ (e : Nat), e < x.fst.nU → x.fst.uP e = x.fst.uP e) (by intros; rfl)), (1, .pf (∀ (e : Nat), e < x.fst.nU → x.fst.uL e = x.fst.uL e) (by intros; rfl)), (1, .pf (∀ (e : Nat), e < x.fst.nU → x.fst.uD e = x.fst.uD e) (by intros; rfl))]
    (V.need (∀ (i : Nat), gd x.fst.nP x.fst.FC i = gd x.fst.nP (fun (e : Nat) => x.fst.FC e) i ∨ gd x.fst.nP (fun (e : Nat) => x.fst.FC e) i = 0)
    (V.need (∀ (i : Nat), gd x.fst.nP (fun (e : Nat) => x.fst.lenP e) i ≤ gd x.fst.nP (fun (e : Nat) => x.fst.FC e) i ∧ gd x.fst.nP (fun (e : Nat) => x.fst.lenP e) i ≤ gd x.fst.nP x.fst.lenP i)
    (nN [(1, .pf (∀ (i e : Nat), e < gd x.fst.nP (fun (e : Nat) => x.fst.lenP e) i → x.fst.iO i e = x.fst.iO i e) (by intros; rfl)), (1, .pf (∀ (i e : Nat), e < gd x.fst.nP (fun (e : Nat) => x.fst.lenP e) i → x.fst.iA i e = x.fst.iA i e) (by intros; rfl)), (1, .pf (∀ (i e : Nat), e < gd x.fst.nP (fun (e : Nat) => x.fst.lenP e) i → x.fst.iB i e = x.fst.iB i e) (by intros; rfl))] V.ok)))))))))))))))))))))))))) := by kernel_rfl


end Go.Proofs.Ytomaagmleafjeaa.Md

/- AgingWhen: an environment in which a task waits: the contract. -/
set_option linter.unusedVariables false
set_option linter.unusedSimpArgs false
set_option maxRecDepth 100000
namespace Go.Proofs.Ytomaagmleafjeaa.Md
open Go Go.RowKit Sx Cn Dc Ck Vc
def preWt (c : Cf) (t l s now : Int) : Prop := errE (c4 c) = 0 ∧ (0 ≤ t ∧ t ≤ 3) ∧ 0 ≤ now ∧ now ≤ 1000
set_option maxHeartbeats 8000000 in
theorem vhWt {c : Cf} {t l s now : Int} (h : preWt c t l s now) : VHolds (verWt c t l s now) := by
  obtain ⟨hE, ht, hn⟩ := h
  have ok : okAt t (Int.ofNat 4) (Int.ofNat 32) (Int.ofNat 5) := ⟨by show 0 ≤ t ∧ t < (4 : Int); omega, by show 0 ≤ t * (5 : Int) ∧ t * (5 : Int) ≤ 1000000; omega, by decide⟩
  constructor
  rw [verWt_eq]
  (repeat' first | with_reducible refine nN_h rfl ?_ | with_reducible refine V.needI ?_ ?_)
  all_goals first
    | exact hE
    | exact ok
    | exact rfl
    | exact ⟨(_, _), is_cl _, Nat.le_refl _⟩
    | (simp only [Int.ofNat_eq_natCast, Int.natCast_zero]; omega)
    | omega
    | skip
  refine V.anyI fun d hd => ?_
  obtain ⟨d, rc⟩ := d
  obtain ⟨⟨FC, r0, cu0, hb, rfl⟩, hrc⟩ := hd
  (repeat' first | with_reducible refine nN_h rfl ?_ | with_reducible refine V.needI ?_ ?_)
  all_goals first
    | exact hE
    | exact ok
    | exact rfl
    | exact ⟨(_, _), is_cl _, Nat.le_refl _⟩
    | (simp only [Int.ofNat_eq_natCast, Int.natCast_zero]; omega)
    | omega
    | skip
  refine V.anyI fun q _ => ?_
  (repeat' first | with_reducible refine nN_h rfl ?_ | with_reducible refine V.needI ?_ ?_)
  all_goals first
    | exact hE
    | exact ok
    | exact rfl
    | exact ⟨(_, _), is_cl _, Nat.le_refl _⟩
    | (simp only [Int.ofNat_eq_natCast, Int.natCast_zero]; omega)
    | omega
    | skip
  refine V.anyI fun a1 h1 => V.brI (fun h => (dlt (by rw [h1]; show ¬ (32 : Int) + t * 5 < 0; omega) h).elim) fun _ => ?_
  (repeat' first | with_reducible refine nN_h rfl ?_ | with_reducible refine V.needI ?_ ?_)
  all_goals first
    | exact hE
    | exact ok
    | exact rfl
    | exact ⟨(_, _), is_cl _, Nat.le_refl _⟩
    | (simp only [Int.ofNat_eq_natCast, Int.natCast_zero]; omega)
    | omega
    | skip
  refine V.anyI fun m1 g1 => ?_
  (repeat' first | with_reducible refine nN_h rfl ?_ | with_reducible refine V.needI ?_ ?_)
  all_goals first
    | exact hE
    | exact ok
    | exact rfl
    | exact ⟨(_, _), is_cl _, Nat.le_refl _⟩
    | (simp only [Int.ofNat_eq_natCast, Int.natCast_zero]; omega)
    | omega
    | skip
  refine V.anyI fun a2 h2 => V.brI (fun h => (dlt (by rw [h2]; show ¬ (32 : Int) + t * 5 < 0; omega) h).elim) fun _ => ?_
  (repeat' first | with_reducible refine nN_h rfl ?_ | with_reducible refine V.needI ?_ ?_)
  all_goals first
    | exact hE
    | exact ok
    | exact rfl
    | exact ⟨(_, _), is_cl _, Nat.le_refl _⟩
    | (simp only [Int.ofNat_eq_natCast, Int.natCast_zero]; omega)
    | omega
    | skip
  refine V.anyI fun m2 g2 => ?_
  (repeat' first | with_reducible refine nN_h rfl ?_ | with_reducible refine V.needI ?_ ?_)
  all_goals first
    | exact hE
    | exact ok
    | exact rfl
    | exact ⟨(_, _), is_cl _, Nat.le_refl _⟩
    | (simp only [Int.ofNat_eq_natCast, Int.natCast_zero]; omega)
    | omega
    | skip
  refine V.anyI fun a3 h3 => V.brI (fun h => (dlt (by rw [h3]; show ¬ (32 : Int) + t * 5 < 0; omega) h).elim) fun _ => ?_
  (repeat' first | with_reducible refine nN_h rfl ?_ | with_reducible refine V.needI ?_ ?_)
  all_goals first
    | exact hE
    | exact ok
    | exact rfl
    | exact ⟨(_, _), is_cl _, Nat.le_refl _⟩
    | (simp only [Int.ofNat_eq_natCast, Int.natCast_zero]; omega)
    | omega
    | skip
  refine V.anyI fun m3 g3 => ?_
  (repeat' first | with_reducible refine nN_h rfl ?_ | with_reducible refine V.needI ?_ ?_)
  all_goals first
    | exact hE
    | exact ok
    | exact rfl
    | exact ⟨(_, _), is_cl _, Nat.le_refl _⟩
    | (simp only [Int.ofNat_eq_natCast, Int.natCast_zero]; omega)
    | omega
    | skip
  refine V.anyI fun x hx => V.brI (fun hi => ?_) fun hi => ?_
  · have hi : x < now := of_decide_eq_true hi
    have hx1 : 0 ≤ x := hx.1
    have ei : IntKind.i64.wrap (x + Int.ofNat 1) = x + 1 := w64 (by show _ ≤ x + (1 : Int) ∧ x + (1 : Int) ≤ _; omega)
    simp only [ei]
    (repeat' first | with_reducible exact V.okI | with_reducible refine V.brT ?_ | with_reducible refine V.brF ?_ | with_reducible refine V.brI ?_ ?_ | with_reducible refine V.anyI ?_ | with_reducible refine nN_h rfl ?_ | with_reducible refine V.needI ?_ ?_ | with_reducible intro _)
    all_goals first
      | omega
      | (simp only [Int.ofNat_eq_natCast, Int.natCast_zero]; omega)
      | skip
  · have hi : x = now := by have h1 := of_decide_eq_false hi; have h2 : x ≤ now := hx.2; omega
    have w0 : IntKind.i64.wrap (a1 + Int.ofNat 0) = 32 + t * 5 := by rw [h1, show Int.ofNat 32 + t * Int.ofNat 5 + Int.ofNat 0 = 32 + t * 5 from Int.add_zero _]; exact w64 (by omega)
    have w1 : IntKind.i64.wrap (a2 + Int.ofNat 1) = 32 + t * 5 + 1 := by rw [h2]; exact w64 (by show _ ≤ (32 : Int) + t * 5 + 1 ∧ (32 : Int) + t * 5 + 1 ≤ _; omega)
    have w4 : IntKind.i64.wrap (a3 + Int.ofNat 4) = 32 + t * 5 + 4 := by rw [h3]; exact w64 (by show _ ≤ (32 : Int) + t * 5 + 4 ∧ (32 : Int) + t * 5 + 4 ≤ _; omega)
    have hm : m3 = waitM t l s := by
      rw [g3, g2, g1, w0, w1, w4]
      rfl
    have hφ : φWt c t l s now ⟨clOf (c4 c) FC r0 cu0, rc, m3, x⟩ := ⟨⟨FC, r0, cu0, hb, rfl⟩, hrc, hm, hi⟩
    (repeat' first | with_reducible exact V.okI | with_reducible refine V.brT ?_ | with_reducible refine V.brF ?_ | with_reducible refine V.brI ?_ ?_ | with_reducible refine V.anyI ?_ | with_reducible refine nN_h rfl ?_ | with_reducible refine V.needI ?_ ?_ | with_reducible intro _)
    all_goals first
      | exact hφ
      | exact .inl rfl
      | (unfold gd; split
         · rename_i hlt; exact ⟨hb.1 _ hlt, Nat.le_refl _⟩
         · exact ⟨Nat.le_refl _, Nat.le_refl _⟩)
      | exact ⟨Nat.le_refl _, Nat.le_refl _⟩
      | omega
      | skip
noncomputable section
def outWt (c : Cf) (t l s now : Int) : Out (SV × Hp) := .need (preWt c t l s now) (.any XWt (φWt c t l s now) fun x => .leaf (.t [.c (.ptr 3 (.k 0) (.k 0) 0 26), .c (.kb true)], ⟨hWt c x, 11, fun _ => True⟩))
def cWt : List SV → Hp → Out (SV × Hp) := fun args H => match args with
  | [.a [.ki .i64 1, .ki .i64 4, .ki .i64 1, .ki .i64 4, .ki .i64 4, .ki .i64 1, .ki .i64 1, x7, .ki .i64 1, .slc kr _ _ _ nP rc, .slc ku _ _ _ nU cu], .c t, .c l, .c s, .c now] => match numC x7, numC t, numC l, numC s, numC now with
    | some A, some t, some l, some s, some now => fN kr fun kr => fN ku fun ku => cfBlk H.h kr ku fun kF ln cp o a b f g k =>
        useP [kr, ku, kF] 3 [argW ⟨1, 4, 1, 4, 4, 1, 1, A, 1, nP.v, rc.v, nU.v, cu.v, fun e => ln 0 e, fun e => cp 0 e, o, a, b, fun e => f 0 e, fun e => g 0 e, fun e => k 0 e⟩, iv t, iv l, iv s, iv now]
          (hC (c4 ⟨1, 4, 1, 4, 4, 1, 1, A, 1, nP.v, rc.v, nU.v, cu.v, fun e => ln 0 e, fun e => cp 0 e, o, a, b, fun e => f 0 e, fun e => g 0 e, fun e => k 0 e⟩))
          (outWt ⟨1, 4, 1, 4, 4, 1, 1, A, 1, nP.v, rc.v, nU.v, cu.v, fun e => ln 0 e, fun e => cp 0 e, o, a, b, fun e => f 0 e, fun e => g 0 e, fun e => k 0 e⟩ t l s now) args H
    | _, _, _, _, _ => .bad 434
  | _ => .bad 435
theorem cWt_ok : ContractOK P fWt cWt := contract_of_useP fun args H => by
  unfold cWt
  simp only [fN_eq]
  repeat' split
  all_goals first | exact .inl ⟨_, rfl⟩ | exact (cfBlk_ok _ _ _ _).elim .inl fun ⟨_, _, _, _, _, _, _, _, _, e⟩ => .inr ⟨_, _, _, _, _, e, local_of_ver conLN_ok fun h => vhWt h⟩
end
end Go.Proofs.Ytomaagmleafjeaa.Md
