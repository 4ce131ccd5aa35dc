/- Drain's statements: an environment whose injector is filled: the conditions, printed by program. -/
import Derived.Test.YtomaagmleafjeaaGreatMMdFlD
import Derived.Test.YtomaagmleafjeaaGreatMW
import Derived.Test.YtomaagmleafjeaaGreatMMdBr
set_option linter.unusedVariables false
set_option linter.unusedSimpArgs false
set_option linter.unusedVariables false
set_option maxRecDepth 100000
namespace Go.Proofs.YtomaagmleafjeaaGreat.Md
open Go Go.RowKit Sx Cn Dc Ck Vc

theorem verFl_eq (c : Cf) (g : Nat → Int) (len cap : Nat) (I : XI1 → Prop) (φ : XFl → Prop) : verFl c g len cap I φ =
  nN [(1, .eqI 1 1), (1, .eqI 3 3), (1, .eqI 1 1), (1, .eqI 8 8), qE c.D, (1, .eqI 8 8), qE c.B, (1, .eqI 0 0), (1, .eqI 1 1), qE c.nP, qE c.rc, qE c.nU, qE c.cu, (1, .le 1 1), (1, .pf (∀ (i : Nat), i < 1 → c.nP ≤ c.nP) (by intros; exact Nat.le_refl _)), (1, .pf (∀ (i e : Nat), i < 1 ∧ e < c.nP → e = e) (by intros; rfl)), (1, .pf (∀ (i e : Nat), i < 1 ∧ e < c.nP → c.lenP e = c.lenP e) (by intros; rfl)), (1, .pf (∀ (i e : Nat), i < 1 ∧ e < c.nP → c.FC e = c.FC e) (by intros; rfl)), (1, .le 1 1), (1, .pf (∀ (i : Nat), i < 1 → c.nU ≤ c.nU) (by intros; exact Nat.le_refl _)), (1, .pf (∀ (i e : Nat), i < 1 ∧ e < c.nU → c.uP e = c.uP e) (by intros; rfl)), (1, .pf (∀ (i e : Nat), i < 1 ∧ e < c.nU → c.uL e = c.uL e) (by intros; rfl)), (1, .pf (∀ (i e : Nat), i < 1 ∧ e < c.nU → c.uD e = c.uD e) (by intros; rfl)), qL c.nP, (1, .pf (∀ (i : Nat), i < c.nP → c.lenP i ≤ c.lenP i) (by intros; exact Nat.le_refl _)), (1, .pf (∀ (i e : Nat), i < c.nP ∧ e < c.lenP i → c.iO i e = c.iO i e) (by intros; rfl)), (1, .pf (∀ (i e : Nat), i < c.nP ∧ e < c.lenP i → c.iA i e = c.iA i e) (by intros; rfl)), (1, .pf (∀ (i e : Nat), i < c.nP ∧ e < c.lenP i → c.iB i e = c.iB i e) (by intros; rfl))]
    (V.need (errE (Cf.mk (Int.ofNat 1) (Int.ofNat 3) (Int.ofNat 1) (Int.ofNat 8) c.D (Int.ofNat 8) c.B (Int.ofNat 0) (Int.ofNat 1) c.nP c.rc c.nU c.cu c.lenP c.FC c.iO c.iA c.iB c.uP c.uL c.uD) = Int.ofNat 0)
    (V.need (∃ (x : Cf × Nat), IsCl (Cf.mk (Int.ofNat 1) (Int.ofNat 3) (Int.ofNat 1) (Int.ofNat 8) c.D (Int.ofNat 8) c.B (Int.ofNat 0) (Int.ofNat 1) c.nP c.rc c.nU c.cu c.lenP c.FC c.iO c.iA c.iB c.uP c.uL c.uD) x.fst ∧ (Int.ofNat 8).toNat ≤ x.snd)
    (V.any (Cf × Nat) (fun (x : Cf × Nat) => IsCl (Cf.mk (Int.ofNat 1) (Int.ofNat 3) (Int.ofNat 1) (Int.ofNat 8) c.D (Int.ofNat 8) c.B (Int.ofNat 0) (Int.ofNat 1) c.nP c.rc c.nU c.cu c.lenP c.FC c.iO c.iA c.iB c.uP c.uL c.uD) x.fst ∧ (Int.ofNat 8).toNat ≤ x.snd) fun (x : Cf × Nat) => nN [(1, .pf (∃ (x : Nat × Int), x = (ncN (Cf.mk (Int.ofNat 1) (Int.ofNat 3) (Int.ofNat 1) (Int.ofNat 8) c.D (Int.ofNat 8) c.B (Int.ofNat 0) (Int.ofNat 1) c.nP c.rc c.nU c.cu c.lenP c.FC c.iO c.iA c.iB c.uP c.uL c.uD), lT (Cf.mk (Int.ofNat 1) (Int.ofNat 3) (Int.ofNat 1) (Int.ofNat 8) c.D (Int.ofNat 8) c.B (Int.ofNat 0) (Int.ofNat 1) c.nP c.rc c.nU c.cu c.lenP c.FC c.iO c.iA c.iB c.uP c.uL c.uD))) ⟨_, rfl⟩)]
    (V.any (Nat × Int) (fun (q : Nat × Int) => q = (ncN (Cf.mk (Int.ofNat 1) (Int.ofNat 3) (Int.ofNat 1) (Int.ofNat 8) c.D (Int.ofNat 8) c.B (Int.ofNat 0) (Int.ofNat 1) c.nP c.rc c.nU c.cu c.lenP c.FC c.iO c.iA c.iB c.uP c.uL c.uD), lT (Cf.mk (Int.ofNat 1) (Int.ofNat 3) (Int.ofNat 1) (Int.ofNat 8) c.D (Int.ofNat 8) c.B (Int.ofNat 0) (Int.ofNat 1) c.nP c.rc c.nU c.cu c.lenP c.FC c.iO c.iA c.iB c.uP c.uL c.uD))) fun (x_1 : Nat × Int) => V.need (I (XI1.mk 0 (Mm.mk (fun (e : Nat) => Int.ofNat 0) (Int.ofNat 0) (Int.ofNat 0) (Int.ofNat 0) (Int.ofNat 0) (Int.ofNat 0))))
    (V.need (Int.ofNat 0 = (↑0 : Int))
    (nN [qE x_1.fst, qE x_1.fst, (5, .eqI 0 0), qE x_1.fst, qL x_1.fst, qF x_1.fst (fun (e : Nat) => Int.ofNat 0)]
    (V.any XI1 I fun (x_2 : XI1) => V.br (decide ((↑x_2.i : Int) < (↑len : Int)))
    (nN [(2, .lt2 0 1 0 1)]
    (V.br (decide ((↑x_2.i : Int) < Int.ofNat 8))
    (V.need (Int.ofNat 0 ≤ (↑x_2.i : Int) ∧ (↑x_2.i : Int) < (↑len : Int))
    (V.need (0 < 1 ∧ 0 + (↑x_2.i : Int).toNat < len)
    (V.need (0 < 1 ∧ 0 + (↑x_2.i : Int).toNat < len)
    (nN [(1, .neI 3 0), (1, .neI 8 0)]
    (V.need (Int.ofNat 200 = (↑200 : Int))
    (nN [(1, .le 1 1), (1, .pf (∀ (i : Nat), i < 1 → 1 ≤ 1) (by intros; exact Nat.le_refl _)), (1, .eqI 8 8), (1, .eqI 1 1), (1, .eqI 3 3), (1, .eqI 1 1), (1, .eqI 8 8), qE c.D, (1, .eqI 8 8), (1, .eqI 12 12), (1, .eqI 13 13), (1, .eqI 14 14), (1, .eqI 15 15), qE x_1.snd, qE x_1.fst, qE x_1.fst, qE x_2.m.lk, qE x_2.m.lc, qE x_2.m.lo, qE x_2.m.ln, qE x_2.m.ct, qE x_1.fst, qL x_1.fst, qF x_1.fst x_2.m.g, qE (IntKind.i64.wrap ((IntKind.u8.wrap ((g (0 + (↑x_2.i : Int).toNat)).tdiv (Int.ofNat 3))).tmod (Int.ofNat 8))), qE ((↑x_2.i : Int))]
    (V.need (pIJ (AP.mk (Ly.mk (Int.ofNat 1) (Int.ofNat 3) (Int.ofNat 1) (Int.ofNat 8) c.D (Int.ofNat 8) (Int.ofNat 12) (Int.ofNat 13) (Int.ofNat 14) (Int.ofNat 15) x_1.snd) 6 7 (NV.s x_1.fst) (NV.s x_1.fst) x_2.m) 200)
    (nN [qX (inR (Ly.mk (Int.ofNat 1) (Int.ofNat 3) (Int.ofNat 1) (Int.ofNat 8) c.D (Int.ofNat 8) (Int.ofNat 12) (Int.ofNat 13) (Int.ofNat 14) (Int.ofNat 15) x_1.snd) x_1.fst (IntKind.i64.wrap ((IntKind.u8.wrap ((g (0 + (↑x_2.i : Int).toNat)).tdiv (Int.ofNat 3))).tmod (Int.ofNat 8))) (↑x_2.i : Int) 200 x_2.m)]
    (V.any Rs (fun (r : Rs) => r = inR (Ly.mk (Int.ofNat 1) (Int.ofNat 3) (Int.ofNat 1) (Int.ofNat 8) c.D (Int.ofNat 8) (Int.ofNat 12) (Int.ofNat 13) (Int.ofNat 14) (Int.ofNat 15) x_1.snd) x_1.fst (IntKind.i64.wrap ((IntKind.u8.wrap ((g (0 + (↑x_2.i : Int).toNat)).tdiv (Int.ofNat 3))).tmod (Int.ofNat 8))) (↑x_2.i : Int) 200 x_2.m) fun (x : Rs) => nN [(14, .lt2 0 1 0 1), (1, .eqI 1 1), (1, .eqI 3 3), (1, .eqI 1 1), (1, .eqI 8 8), qE c.D, (1, .eqI 8 8), qE c.B, (1, .eqI 0 0), (1, .eqI 1 1), qE c.nP, qE c.rc, qE c.nU, qE c.cu, qE ((↑x_2.i : Int)), (1, .eqI 1 1), (1, .le 1 1), (1, .pf (∀ (i : Nat), i < 1 → c.nP ≤ c.nP) (by intros; exact Nat.le_refl _)), (1, .pf (∀ (i e : Nat), i < 1 ∧ e < c.nP → e = e) (by intros; rfl)), (1, .pf (∀ (i e : Nat), i < 1 ∧ e < c.nP → c.lenP e = c.lenP e) (by intros; rfl)), (1, .pf (∀ (i e : Nat), i < 1 ∧ e < c.nP → c.FC e = c.FC e) (by intros; rfl)), (1, .le 1 1), (1, .pf (∀ (i : Nat), i < 1 → c.nU ≤ c.nU) (by intros; exact Nat.le_refl _)), (1, .pf (∀ (i e : Nat), i < 1 ∧ e < c.nU → c.uP e = c.uP e) (by intros; rfl)), (1, .pf (∀ (i e : Nat), i < 1 ∧ e < c.nU → c.uL e = c.uL e) (by intros; rfl)), (1, .pf (∀ (i e : Nat), i < 1 ∧ e < c.nU → c.uD e = c.uD e) (by intros; rfl)), qL c.nP, (1, .pf (∀ (i : Nat), i < c.nP → c.lenP i ≤ c.lenP i) (by intros; exact Nat.le_refl _)), (1, .pf (∀ (i e : Nat), i < c.nP ∧ e < c.lenP i → c.iO i e = c.iO i e) (by intros; rfl)), (1, .pf (∀ (i e : Nat), i < c.nP ∧ e < c.lenP i → c.iA i e = c.iA i e) (by intros; rfl)), (1, .pf (∀ (i e : Nat), i < c.nP ∧ e < c.lenP i → c.iB i e = c.iB i e) (by intros; rfl))]
    (V.need (preTk (Cf.mk (Int.ofNat 1) (Int.ofNat 3) (Int.ofNat 1) (Int.ofNat 8) c.D (Int.ofNat 8) c.B (Int.ofNat 0) (Int.ofNat 1) c.nP c.rc c.nU c.cu c.lenP c.FC c.iO c.iA c.iB c.uP c.uL c.uD) (↑x_2.i : Int) (Int.ofNat 1))
    (nN [qX (lT (Cf.mk (Int.ofNat 1) (Int.ofNat 3) (Int.ofNat 1) (Int.ofNat 8) c.D (Int.ofNat 8) c.B (Int.ofNat 0) (Int.ofNat 1) c.nP c.rc c.nU c.cu c.lenP c.FC c.iO c.iA c.iB c.uP c.uL c.uD) + (↑x_2.i : Int) * Int.ofNat 5 + Int.ofNat 1)]
    (V.any Int (fun (r : Int) => r = lT (Cf.mk (Int.ofNat 1) (Int.ofNat 3) (Int.ofNat 1) (Int.ofNat 8) c.D (Int.ofNat 8) c.B (Int.ofNat 0) (Int.ofNat 1) c.nP c.rc c.nU c.cu c.lenP c.FC c.iO c.iA c.iB c.uP c.uL c.uD) + (↑x_2.i : Int) * Int.ofNat 5 + Int.ofNat 1) fun (x_3 : Int) => V.need (Int.ofNat 0 ≤ (↑x_2.i : Int) ∧ (↑x_2.i : Int) < (↑len : Int))
    (V.need (0 < 1 ∧ 0 + (↑x_2.i : Int).toNat < len)
    (V.need (0 < 1 ∧ 0 + (↑x_2.i : Int).toNat < len)
    (nN [(1, .neI 3 0), qE x_3, qE (IntKind.u64.wrap ((g (0 + (↑x_2.i : Int).toNat)).tmod (Int.ofNat 3))), qE x_1.fst, qE x_1.fst, qE x.m.lk, qE x.m.lc, qE x.m.lo, qE x.m.ln, qE x.m.ct, qE x_1.fst, qL x_1.fst, qF x_1.fst x.m.g, qX (x.m.acc x_1.fst (Int.ofNat 2) x_3 (IntKind.u64.wrap ((g (0 + (↑x_2.i : Int).toNat)).tmod (Int.ofNat 3))))]
    (V.any Mm (fun (m' : Mm) => m' = x.m.acc x_1.fst (Int.ofNat 2) x_3 (IntKind.u64.wrap ((g (0 + (↑x_2.i : Int).toNat)).tmod (Int.ofNat 3)))) fun (x : Mm) => nN [(14, .lt2 0 1 0 1), (1, .eqI 1 1), (1, .eqI 3 3), (1, .eqI 1 1), (1, .eqI 8 8), qE c.D, (1, .eqI 8 8), qE c.B, (1, .eqI 0 0), (1, .eqI 1 1), qE c.nP, qE c.rc, qE c.nU, qE c.cu, qE ((↑x_2.i : Int)), (1, .eqI 0 0), (1, .le 1 1), (1, .pf (∀ (i : Nat), i < 1 → c.nP ≤ c.nP) (by intros; exact Nat.le_refl _)), (1, .pf (∀ (i e : Nat), i < 1 ∧ e < c.nP → e = e) (by intros; rfl)), (1, .pf (∀ (i e : Nat), i < 1 ∧ e < c.nP → c.lenP e = c.lenP e) (by intros; rfl)), (1, .pf (∀ (i e : Nat), i < 1 ∧ e < c.nP → c.FC e = c.FC e) (by intros; rfl)), (1, .le 1 1), (1, .pf (∀ (i : Nat), i < 1 → c.nU ≤ c.nU) (by intros; exact Nat.le_refl _)), (1, .pf (∀ (i e : Nat), i < 1 ∧ e < c.nU → c.uP e = c.uP e) (by intros; rfl)), (1, .pf (∀ (i e : Nat), i < 1 ∧ e < c.nU → c.uL e = c.uL e) (by intros; rfl)), (1, .pf (∀ (i e : Nat), i < 1 ∧ e < c.nU → c.uD e = c.uD e) (by intros; rfl)), qL c.nP, (1, .pf (∀ (i : Nat), i < c.nP → c.lenP i ≤ c.lenP i) (by intros; exact Nat.le_refl _)), (1, .pf (∀ (i e : Nat), i < c.nP ∧ e < c.lenP i → c.iO i e = c.iO i e) (by intros; rfl)), (1, .pf (∀ (i e : Nat), i < c.nP ∧ e < c.lenP i → c.iA i e = c.iA i e) (by intros; rfl)), (1, .pf (∀ (i e : Nat), i < c.nP ∧ e < c.lenP i → c.iB i e = c.iB i e) (by intros; rfl))]
    (V.need (preTk (Cf.mk (Int.ofNat 1) (Int.ofNat 3) (Int.ofNat 1) (Int.ofNat 8) c.D (Int.ofNat 8) c.B (Int.ofNat 0) (Int.ofNat 1) c.nP c.rc c.nU c.cu c.lenP c.FC c.iO c.iA c.iB c.uP c.uL c.uD) (↑x_2.i : Int) (Int.ofNat 0))
    (nN [qX (lT (Cf.mk (Int.ofNat 1) (Int.ofNat 3) (Int.ofNat 1) (Int.ofNat 8) c.D (Int.ofNat 8) c.B (Int.ofNat 0) (Int.ofNat 1) c.nP c.rc c.nU c.cu c.lenP c.FC c.iO c.iA c.iB c.uP c.uL c.uD) + (↑x_2.i : Int) * Int.ofNat 5 + Int.ofNat 0)]
    (V.any Int (fun (r : Int) => r = lT (Cf.mk (Int.ofNat 1) (Int.ofNat 3) (Int.ofNat 1) (Int.ofNat 8) c.D (Int.ofNat 8) c.B (Int.ofNat 0) (Int.ofNat 1) c.nP c.rc c.nU c.cu c.lenP c.FC c.iO c.iA c.iB c.uP c.uL c.uD) + (↑x_2.i : Int) * Int.ofNat 5 + Int.ofNat 0) fun (x_4 : Int) => nN [qE x_4, (1, .eqI 1 1), qE x_1.fst, qE x_1.fst, qE x.lk, qE x.lc, qE x.lo, qE x.ln, qE x.ct, qE x_1.fst, qL x_1.fst, qF x_1.fst x.g, qX (x.acc x_1.fst (Int.ofNat 2) x_4 (Int.ofNat 1))]
    (V.any Mm (fun (m' : Mm) => m' = x.acc x_1.fst (Int.ofNat 2) x_4 (Int.ofNat 1)) fun (x : Mm) => V.need (I (XI1.mk (IntKind.i64.wrap ((↑x_2.i : Int) + Int.ofNat 1)).toNat x))
    (V.need (min len 8 - (IntKind.i64.wrap ((↑x_2.i : Int) + Int.ofNat 1)).toNat < min len 8 - x_2.i)
    (V.need (IntKind.i64.wrap ((↑x_2.i : Int) + Int.ofNat 1) = (↑(IntKind.i64.wrap ((↑x_2.i : Int) + Int.ofNat 1)).toNat : Int))
    (nN [qE x_1.fst, qE x_1.fst, qE x.lk, qE x.lc, qE x.lo, qE x.ln, qE x.ct, qE x_1.fst, qL x_1.fst, qF x_1.fst x.g] V.ok)))))))))))))))))))))))
    (V.need (φ (XFl.mk (Cf.mk (Int.ofNat 1) (Int.ofNat 3) (Int.ofNat 1) (Int.ofNat 8) c.D (Int.ofNat 8) c.B (Int.ofNat 0) (Int.ofNat 1) x.fst.nP x.fst.rc x.fst.nU x.fst.cu x.fst.lenP x.fst.FC x.fst.iO x.fst.iA x.fst.iB x.fst.uP x.fst.uL x.fst.uD) x.snd x_1.fst x_1.snd x_2.m))
    (nN [qE c.D, qE c.B, qE x.fst.nP, qE x.fst.rc, qE x.fst.nU, qE x.fst.cu, qE c.D, qE x_1.snd, qE x.snd, qE x_1.fst, qE x_1.fst, qE x_2.m.lk, qE x_2.m.lc, qE x_2.m.lo, qE x_2.m.ln, qE x_2.m.ct, qE x_1.fst, qL x_1.fst, qF x_1.fst x_2.m.g, qE x.snd, (1, .le 8 8), qE x.fst.rc, qL x.fst.nP, qF x.fst.nP (fun (e : Nat) => e), qF x.fst.nP x.fst.lenP, qF x.fst.nP x.fst.FC, qE x.fst.cu, qL x.fst.nU, qF x.fst.nU x.fst.uP, qF x.fst.nU x.fst.uL, qF x.fst.nU x.fst.uD]
    (V.need (∀ (i : Nat), gd x.fst.nP x.fst.FC i = gd x.fst.nP x.fst.FC i ∨ gd x.fst.nP x.fst.FC i = 0)
    (V.need (∀ (i : Nat), gd x.fst.nP x.fst.lenP i ≤ gd x.fst.nP x.fst.FC i ∧ gd x.fst.nP x.fst.lenP i ≤ gd x.fst.nP x.fst.lenP i)
    (nN [(1, .pf (∀ (i e : Nat), e < gd x.fst.nP x.fst.lenP i → x.fst.iO i e = x.fst.iO i e) (by intros; rfl)), (1, .pf (∀ (i e : Nat), e < gd x.fst.nP x.fst.lenP i → x.fst.iA i e = x.fst.iA i e) (by intros; rfl)), (1, .pf (∀ (i e : Nat), e < gd x.fst.nP x.fst.lenP i → x.fst.iB i e = x.fst.iB i e) (by intros; rfl))] V.ok)))))))
    (V.need (φ (XFl.mk (Cf.mk (Int.ofNat 1) (Int.ofNat 3) (Int.ofNat 1) (Int.ofNat 8) c.D (Int.ofNat 8) c.B (Int.ofNat 0) (Int.ofNat 1) x.fst.nP x.fst.rc x.fst.nU x.fst.cu x.fst.lenP x.fst.FC x.fst.iO x.fst.iA x.fst.iB x.fst.uP x.fst.uL x.fst.uD) x.snd x_1.fst x_1.snd x_2.m))
    (nN [qE c.D, qE c.B, qE x.fst.nP, qE x.fst.rc, qE x.fst.nU, qE x.fst.cu, qE c.D, qE x_1.snd, qE x.snd, qE x_1.fst, qE x_1.fst, qE x_2.m.lk, qE x_2.m.lc, qE x_2.m.lo, qE x_2.m.ln, qE x_2.m.ct, qE x_1.fst, qL x_1.fst, qF x_1.fst x_2.m.g, qE x.snd, (1, .le 8 8), qE x.fst.rc, qL x.fst.nP, qF x.fst.nP (fun (e : Nat) => e), qF x.fst.nP x.fst.lenP, qF x.fst.nP x.fst.FC, qE x.fst.cu, qL x.fst.nU, qF x.fst.nU x.fst.uP, qF x.fst.nU x.fst.uL, qF x.fst.nU x.fst.uD]
    (V.need (∀ (i : Nat), gd x.fst.nP x.fst.FC i = gd x.fst.nP x.fst.FC i ∨ gd x.fst.nP x.fst.FC i = 0)
    (V.need (∀ (i : Nat), gd x.fst.nP x.fst.lenP i ≤ gd x.fst.nP x.fst.FC i ∧ gd x.fst.nP x.fst.lenP i ≤ gd x.fst.nP x.fst.lenP i)
    (nN [(1, .pf (∀ (i e : Nat), e < gd x.fst.nP x.fst.lenP i → x.fst.iO i e = x.fst.iO i e) (by intros; rfl)), (1, .pf (∀ (i e : Nat), e < gd x.fst.nP x.fst.lenP i → x.fst.iA i e = x.fst.iA i e) (by intros; rfl)), (1, .pf (∀ (i e : Nat), e < gd x.fst.nP x.fst.lenP i → x.fst.iB i e = x.fst.iB i e) (by intros; rfl))] V.ok)))))))))))) := by kernel_rfl


end Go.Proofs.YtomaagmleafjeaaGreat.Md

/- Drain's statements: an environment whose injector is filled: the contract. -/
set_option linter.unusedVariables false
set_option linter.unusedSimpArgs false
set_option maxRecDepth 100000
namespace Go.Proofs.YtomaagmleafjeaaGreat.Md
open Go Go.RowKit Sx Cn Dc Ck Vc
theorem okY23 {c : Cf} (h : errE (c23 c) = 0) : okY (c23 c) ∧ (1 ≤ c.D ∧ c.D ≤ 64) := by
  obtain ⟨⟨hW, hL, hC, hT, hD, hH, _⟩, _⟩ := (err_zero _).1 h
  exact ⟨⟨hW, hL, by show (1 : Int) ≤ 1 ∧ (1 : Int) ≤ 8; decide, hT, hD, hH⟩, hD⟩
theorem lT23 (c : Cf) : lT (c23 c) = 15 + 3 * (2 + c.D) := by
  show (4 : Int) + 8 + 1 + 2 * 1 + 1 * 3 * (2 + c.D) = _
  omega
theorem ncN23 {c : Cf} (h : 1 ≤ c.D) : (ncN (c23 c) : Int) = 61 + 3 * c.D := by
  unfold ncN ncI
  rw [lT23]
  show (((15 + 3 * (2 + c.D) + 5 * 8 : Int).toNat : Nat) : Int) = _
  omega
def okFl (c : Cf) (g : Nat → Int) (len : Nat) (x : XI1) : Prop := x.i ≤ min len 8 ∧ x.m = filM c.D (lT (c23 c)) (ncN (c23 c)) g x.i
theorem pijF {x : AP} (h : x.y.H = 8) : pIJ x 200 := ⟨⟨by omega, by omega⟩, by decide⟩
set_option maxHeartbeats 8000000 in
theorem vhFl {c : Cf} {g : Nat → Int} {len cap : Nat} (hE : errE (c23 c) = 0) : VHolds (verFl c g len cap (okFl c g len) (φFl c g len)) := by
  obtain ⟨okY, hD⟩ := okY23 hE
  constructor
  rw [verFl_eq]
  ((repeat' first | with_reducible refine nN_h rfl ?_ | with_reducible refine V.brT ?_ | with_reducible refine V.brF ?_ | with_reducible refine V.needI ?_ ?_) <;> (try first | with_reducible exact V.okI | exact rfl | exact ⟨Nat.le_refl _, rfl⟩ | exact Nat.le_refl _ | assumption | omega | trivial | decide | (intros; rfl) | (intros; trivial)))
  · exact ⟨(_, _), is_cl _, Nat.le_refl _⟩
  refine V.anyI fun d hd => ?_
  obtain ⟨d, rc⟩ := d
  obtain ⟨⟨FC, r0, cu0, hb, rfl⟩, hrc⟩ := hd
  dsimp only at hrc
  ((repeat' first | with_reducible refine nN_h rfl ?_ | with_reducible refine V.brT ?_ | with_reducible refine V.brF ?_ | with_reducible refine V.needI ?_ ?_) <;> (try first | with_reducible exact V.okI | exact rfl | exact ⟨Nat.le_refl _, rfl⟩ | exact Nat.le_refl _ | assumption | omega | trivial | decide | (intros; rfl) | (intros; trivial)))
  refine V.anyI fun q hq => ?_
  obtain ⟨n, tb⟩ := q
  have hn : n = ncN (c23 c) := (Prod.mk.inj hq).1
  have ht : tb = lT (c23 c) := (Prod.mk.inj hq).2
  clear hq
  dsimp only
  ((repeat' first | with_reducible refine nN_h rfl ?_ | with_reducible refine V.brT ?_ | with_reducible refine V.brF ?_ | with_reducible refine V.needI ?_ ?_) <;> (try first | with_reducible exact V.okI | exact rfl | exact ⟨Nat.le_refl _, rfl⟩ | exact Nat.le_refl _ | assumption | omega | trivial | decide | (intros; rfl) | (intros; trivial)))
  · exact ⟨Nat.zero_le _, rfl⟩
  refine V.anyI fun x hx => ?_
  obtain ⟨o1, o2⟩ := hx
  rw [← hn, ← ht] at o2
  have hφ : φFl c g len ⟨clOf (c23 c) FC r0 cu0, rc, n, tb, x.m⟩ ∨ x.i < min len 8 := by
    by_cases h : x.i < min len 8
    · exact .inr h
    · refine .inl ⟨⟨FC, r0, cu0, hb, rfl⟩, hrc, ⟨hn, ht⟩, ?_⟩
      rw [o2, show x.i = min len 8 by omega]
  have hfin : ∀ {k : V}, (φFl c g len ⟨clOf (c23 c) FC r0 cu0, rc, n, tb, x.m⟩) → k.holds → (V.need (φFl c g len ⟨clOf (c23 c) FC r0 cu0, rc, n, tb, x.m⟩) k).holds := fun h k => ⟨h, k⟩
  refine V.brI (fun hi => ?_) fun hi => ?_
  · have hi : x.i < len := by have := of_decide_eq_true hi; omega
    ((repeat' first | with_reducible refine nN_h rfl ?_ | with_reducible refine V.brT ?_ | with_reducible refine V.brF ?_ | with_reducible refine V.needI ?_ ?_) <;> (try first | with_reducible exact V.okI | exact rfl | exact ⟨Nat.le_refl _, rfl⟩ | exact Nat.le_refl _ | assumption | omega | trivial | decide | (intros; rfl) | (intros; trivial)))
    refine V.brI (fun h8 => ?_) fun h8 => ?_
    · have h8 : x.i < 8 := by have : (x.i : Int) < (8 : Int) := of_decide_eq_true h8; omega
      have ei : IntKind.i64.wrap ((x.i : Int) + Int.ofNat 1) = ((x.i + 1 : Nat) : Int) := wnat (by omega)
      simp only [ei, Int.toNat_natCast, Nat.zero_add]
      ((repeat' first | with_reducible refine nN_h rfl ?_ | with_reducible refine V.brT ?_ | with_reducible refine V.brF ?_ | with_reducible refine V.needI ?_ ?_) <;> (try first | with_reducible exact V.okI | exact rfl | exact ⟨Nat.le_refl _, rfl⟩ | exact Nat.le_refl _ | assumption | omega | trivial | decide | (intros; rfl) | (intros; trivial)))
      all_goals try exact ⟨Int.natCast_nonneg _, by omega⟩
      all_goals try exact ⟨Nat.zero_lt_one, hi⟩
      · exact pijF rfl
      refine V.anyI fun R hR => ?_
      ((repeat' first | with_reducible refine nN_h rfl ?_ | with_reducible refine V.brT ?_ | with_reducible refine V.brF ?_ | with_reducible refine V.needI ?_ ?_) <;> (try first | with_reducible exact V.okI | exact rfl | exact ⟨Nat.le_refl _, rfl⟩ | exact Nat.le_refl _ | assumption | omega | trivial | decide | (intros; rfl) | (intros; trivial)))
      · exact ⟨okY, ⟨Int.natCast_nonneg _, by show (x.i : Int) < (8 : Int); omega⟩, by decide, by decide⟩
      refine V.anyI fun a1 h1 => ?_
      ((repeat' first | with_reducible refine nN_h rfl ?_ | with_reducible refine V.brT ?_ | with_reducible refine V.brF ?_ | with_reducible refine V.needI ?_ ?_) <;> (try first | with_reducible exact V.okI | exact rfl | exact ⟨Nat.le_refl _, rfl⟩ | exact Nat.le_refl _ | assumption | omega | trivial | decide | (intros; rfl) | (intros; trivial)))
      all_goals try exact ⟨Int.natCast_nonneg _, by omega⟩
      all_goals try exact ⟨Nat.zero_lt_one, hi⟩
      refine V.anyI fun m1 g1 => ?_
      ((repeat' first | with_reducible refine nN_h rfl ?_ | with_reducible refine V.brT ?_ | with_reducible refine V.brF ?_ | with_reducible refine V.needI ?_ ?_) <;> (try first | with_reducible exact V.okI | exact rfl | exact ⟨Nat.le_refl _, rfl⟩ | exact Nat.le_refl _ | assumption | omega | trivial | decide | (intros; rfl) | (intros; trivial)))
      · exact ⟨okY, ⟨Int.natCast_nonneg _, by show (x.i : Int) < (8 : Int); omega⟩, by decide, by decide⟩
      refine V.anyI fun a0 h0 => ?_
      ((repeat' first | with_reducible refine nN_h rfl ?_ | with_reducible refine V.brT ?_ | with_reducible refine V.brF ?_ | with_reducible refine V.needI ?_ ?_) <;> (try first | with_reducible exact V.okI | exact rfl | exact ⟨Nat.le_refl _, rfl⟩ | exact Nat.le_refl _ | assumption | omega | trivial | decide | (intros; rfl) | (intros; trivial)))
      refine V.anyI fun m0 g0 => ?_
      ((repeat' first | with_reducible refine nN_h rfl ?_ | with_reducible refine V.brT ?_ | with_reducible refine V.brF ?_ | with_reducible refine V.needI ?_ ?_) <;> (try first | with_reducible exact V.okI | exact rfl | exact ⟨Nat.le_refl _, rfl⟩ | exact Nat.le_refl _ | assumption | omega | trivial | decide | (intros; rfl) | (intros; trivial)))
      refine ⟨by show x.i + 1 ≤ min len 8; omega, ?_⟩
      have h1 : a1 = tb + x.i * 5 + 1 := by rw [ht]; exact h1
      have h0 : a0 = tb + x.i * 5 + 0 := by rw [ht]; exact h0
      rw [← hn, ← ht]
      dsimp only
      rw [g0, g1, h1, h0, hR, o2]
      rfl
    · have h8 : ¬ x.i < 8 := by have : ¬ (x.i : Int) < (8 : Int) := of_decide_eq_false h8; omega
      (repeat' first | with_reducible exact V.okI | with_reducible refine V.brT ?_ | with_reducible refine V.brF ?_ | with_reducible refine V.brI ?_ ?_ | with_reducible refine V.anyI ?_ | with_reducible refine nN_h rfl ?_ | with_reducible refine V.needI ?_ ?_ | with_reducible intro _)
      all_goals first
        | exact hφ.resolve_right (by omega)
        | exact .inl rfl
        | (unfold gd; split
           · rename_i hlt; exact ⟨hb.1 _ hlt, Nat.le_refl _⟩
           · exact ⟨Nat.le_refl _, Nat.le_refl _⟩)
        | omega
        | skip
  · have hi : ¬ x.i < len := by have := of_decide_eq_false hi; omega
    (repeat' first | with_reducible exact V.okI | with_reducible refine V.brT ?_ | with_reducible refine V.brF ?_ | with_reducible refine V.brI ?_ ?_ | with_reducible refine V.anyI ?_ | with_reducible refine nN_h rfl ?_ | with_reducible refine V.needI ?_ ?_ | with_reducible intro _)
    all_goals first
      | exact hφ.resolve_right (by omega)
      | exact .inl rfl
      | (unfold gd; split
         · rename_i hlt; exact ⟨hb.1 _ hlt, Nat.le_refl _⟩
         · exact ⟨Nat.le_refl _, Nat.le_refl _⟩)
      | omega
      | skip
noncomputable section
def outFl (c : Cf) (g : Nat → Int) (len : Nat) : Out (SV × Hp) := .need (errE (c23 c) = 0) (.any XFl (φFl c g len) fun x => .leaf (.t [.c (.ptr 4 (.k 0) (.k 0) 0 26), .c (.kb true)], ⟨hFl c x, 12, fun _ => True⟩))
/-- A column's numbers, also where they are listed. -/
def rowL (k : Nat) (h : HL) : Option (Nat → Int) := match find k h with
  | some b => match colsB b with
    | [c] => colG c
    | _ => none
  | none => none
def cFl : List SV → Hp → Out (SV × Hp) := fun args H => match args with
  | [.a [.ki .i64 1, .ki .i64 3, .ki .i64 1, .ki .i64 8, x4, .ki .i64 8, x6, .ki .i64 0, .ki .i64 1, .slc kr _ _ _ nP rc, .slc ku _ _ _ nU cu], .c (.slc kg _ _ _ len cap)] => match numC x4, numC x6, rowL kg H.h with
    | some D, some B, some g => fN kr fun kr => fN ku fun ku => fN kg fun kg => cfBlk H.h kr ku fun kF ln cp o a b f g1 k =>
        useP [kr, ku, kF, kg] 4 [argF ⟨1, 3, 1, 8, D, 8, B, 0, 1, nP.v, rc.v, nU.v, cu.v, fun e => ln 0 e, fun e => cp 0 e, o, a, b, fun e => f 0 e, fun e => g1 0 e, fun e => k 0 e⟩, .c (slK 3 1 len.v cap.v)]
          (hC (c23 ⟨1, 3, 1, 8, D, 8, B, 0, 1, nP.v, rc.v, nU.v, cu.v, fun e => ln 0 e, fun e => cp 0 e, o, a, b, fun e => f 0 e, fun e => g1 0 e, fun e => k 0 e⟩) ++ [(3, ints .u8 len.v fun e => g e)])
          (outFl ⟨1, 3, 1, 8, D, 8, B, 0, 1, nP.v, rc.v, nU.v, cu.v, fun e => ln 0 e, fun e => cp 0 e, o, a, b, fun e => f 0 e, fun e => g1 0 e, fun e => k 0 e⟩ (fun e => g e) len.v) args H
    | _, _, _ => .bad 434
  | _ => .bad 435
theorem cFl_ok : ContractOK P fFil cFl := contract_of_useP fun args H => by
  unfold cFl
  simp only [fN_eq]
  repeat' split
  all_goals first | exact .inl ⟨_, rfl⟩ | exact (cfBlk_ok _ _ _ _).elim .inl fun ⟨_, _, _, _, _, _, _, _, _, e⟩ => .inr ⟨_, _, _, _, _, e, local_of_ver conFl_ok fun h => vhFl h⟩
end
end Go.Proofs.YtomaagmleafjeaaGreat.Md
