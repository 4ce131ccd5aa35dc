/- InjectorHeaps: the conditions, printed by program. -/
import Derived.Test.YtomaagmleafjeaaMMdIhD
import Derived.Test.YtomaagmleafjeaaMW
import Derived.Test.YtomaagmleafjeaaMMdIhL
import Derived.Test.YtomaagmleafjeaaMMdBr
set_option linter.unusedVariables false
set_option linter.unusedSimpArgs false
set_option linter.unusedVariables false
set_option maxRecDepth 100000
namespace Go.Proofs.Ytomaagmleafjeaa.Md
open Go Go.RowKit Sx Cn Dc Ck Vc

set_option maxHeartbeats 8000000 in
theorem verIh_eq (b : Int) (g : Nat → Int) (len cap : Nat) : verIh b g len cap =
  V.br (decide ((↑len : Int) > Int.ofNat 100)) V.ok
    (nN [(1, .neI 12 0)]
    (V.need ((U8 0 fun (x : Nat) => Int.ofNat 0) ∧ 0 ≤ 9)
    (V.need (∃ (x : Nat × Nat × (Nat → Nat)), 1 ≤ x.fst)
    (V.any (Nat × Nat × (Nat → Nat)) (fun (x : Nat × Nat × (Nat → Nat)) => 1 ≤ x.fst) fun (x : Nat × Nat × (Nat → Nat)) => nN [(3, .eqI 1 1), (1, .eqI 256 256), (1, .eqI 1 1), (1, .pf (IntKind.i64.wrap (Int.ofNat 1 + IntKind.i64.wrap (b.tmod (Int.ofNat 12))) = IntKind.i64.wrap (Int.ofNat 1 + IntKind.i64.wrap (b.tmod (Int.ofNat 12)))) rfl), (1, .eqI 1 1), (1, .eqI 0 0), (1, .eqI 1 1), (1, .eq 1 1), (1, .pf (x.fst = x.fst) rfl), (1, .eq 0 0), (1, .pf (x.snd.fst = x.snd.fst) rfl), (1, .le 1 1)]
    (V.need (1 ≤ 1 ∧ 1 ≤ x.fst)
    (nN [(1, .pf (∀ (i e : Nat), i = 0 ∧ e < 1 → e = e) (by intros; rfl)), (1, .pf (∀ (i e : Nat), i = 0 ∧ e < 1 → 0 = 0) (by intros; rfl)), (1, .pf (∀ (i e : Nat), i = 0 ∧ e < 1 → x.snd.snd e = x.snd.snd e) (by intros; rfl)), (1, .le 1 1)]
    (V.need (0 ≤ 0 ∧ 0 ≤ x.snd.fst)
    (nN [(1, .pf (∀ (i e : Nat), i = 0 ∧ e < 0 → uP (fun (x : Nat) => Int.ofNat 0) 0 e = uP (fun (x : Nat) => Int.ofNat 0) 0 e) (by intros; rfl)), (1, .pf (∀ (i e : Nat), i = 0 ∧ e < 0 → uL (fun (x : Nat) => Int.ofNat 0) 0 e = uL (fun (x : Nat) => Int.ofNat 0) 0 e) (by intros; rfl)), (1, .pf (∀ (i e : Nat), i = 0 ∧ e < 0 → uD (fun (x : Nat) => Int.ofNat 0) 0 e = uD (fun (x : Nat) => Int.ofNat 0) 0 e) (by intros; rfl))]
    (V.need (∀ (i : Nat), i < 1 → 0 ≤ gd 1 (fun (x : Nat) => 0) i ∧ 0 ≤ gd 1 (fun (e : Nat) => x.snd.snd e) i)
    (nN [(1, .pf (∀ (i e : Nat), i < 1 ∧ e < 0 → cO (fun (x : Nat) => Int.ofNat 0) 0 i e = cO (fun (x : Nat) => Int.ofNat 0) 0 i e) (by intros; rfl)), (1, .pf (∀ (i e : Nat), i < 1 ∧ e < 0 → cA (fun (x : Nat) => Int.ofNat 0) 0 i e = cA (fun (x : Nat) => Int.ofNat 0) 0 i e) (by intros; rfl)), (1, .pf (∀ (i e : Nat), i < 1 ∧ e < 0 → cB (fun (x : Nat) => Int.ofNat 0) 0 i e = cB (fun (x : Nat) => Int.ofNat 0) 0 i e) (by intros; rfl))]
    (V.need (errE (cfgIh b x) = Int.ofNat 0)
    (V.need (∃ (x_1 : Cf × Nat), IsCl (cfgIh b x) x_1.fst ∧ (Int.ofNat 256).toNat ≤ x_1.snd)
    (V.any (Cf × Nat) (fun (x_1 : Cf × Nat) => IsCl (cfgIh b x) x_1.fst ∧ (Int.ofNat 256).toNat ≤ x_1.snd) fun (x_1 : Cf × Nat) => nN [(1, .pf (∃ (x_2 : Nat × Int), x_2 = (ncN (cfgIh b x), lT (cfgIh b x))) ⟨_, rfl⟩)]
    (V.any (Nat × Int) (fun (q : Nat × Int) => q = (ncN (cfgIh b x), lT (cfgIh b x))) fun (x_2 : Nat × Int) => V.need True
    (V.need (0 ≤ len ∧ 0 ≤ 0 ∧ (↑0 : Int) ≤ hIh b ∧ 0 ≤ 0 ∧ Int.ofNat 0 = (↑0 : Int) ∧ Int.ofNat 0 = (↑0 : Int) ∧ (∀ (j : Nat), j < 0 → Int.ofNat 0 = Int.ofNat 0) ∧ (∀ (j : Nat), j < 0 → Int.ofNat 0 ≤ Int.ofNat 0 ∧ Int.ofNat 0 ≤ Int.ofNat 18446744073709551615) ∧ 0 ≤ 0 ∧ 0 ≤ 0)
    (V.need (Int.ofNat 0 = (↑0 : Int))
    (V.need (Int.ofNat 0 = (↑0 : Int))
    (nN [(2, .eq 0 0), (2, .pf (x_2.fst = x_2.fst) rfl), (5, .eqI 0 0), (1, .pf (x_2.fst = x_2.fst) rfl), (1, .pf (x_2.fst ≤ x_2.fst) (Nat.le_refl _)), (1, .pf (∀ (e : Nat), e < x_2.fst → Int.ofNat 0 = Int.ofNat 0) (by intros; rfl)), (1, .pf (IntKind.i64.wrap (Int.ofNat 1 + IntKind.i64.wrap (b.tmod (Int.ofNat 12))) = IntKind.i64.wrap (Int.ofNat 1 + IntKind.i64.wrap (b.tmod (Int.ofNat 12)))) rfl), (3, .eqI 1 1), (1, .eqI 256 256), (1, .eqI 1 1), (1, .pf (IntKind.i64.wrap (Int.ofNat 1 + IntKind.i64.wrap (b.tmod (Int.ofNat 12))) = IntKind.i64.wrap (Int.ofNat 1 + IntKind.i64.wrap (b.tmod (Int.ofNat 12)))) rfl), (1, .pf (lS (cfgIh b x) = lS (cfgIh b x)) rfl), (1, .pf (lE (cfgIh b x) = lE (cfgIh b x)) rfl), (1, .pf (lB (cfgIh b x) = lB (cfgIh b x)) rfl), (1, .pf (lQ (cfgIh b x) = lQ (cfgIh b x)) rfl), (1, .pf (x_2.snd = x_2.snd) rfl), (3, .eq 0 0), (1, .le 0 0), (5, .pf (∀ (e : Nat), e < 0 → Int.ofNat 0 = Int.ofNat 0) (by intros; rfl)), (1, .eq 0 0), (1, .le 0 0), (1, .pf (∀ (e : Nat), e < 0 → Int.ofNat 0 = Int.ofNat 0) (by intros; rfl))]
    (V.any XIh (okIh (hIh b) len) fun (x_3 : XIh) => V.br (decide ((↑x_3.i : Int) < (↑len : Int)))
    (V.need (Int.ofNat 0 ≤ (↑x_3.i : Int) ∧ (↑x_3.i : Int) < (↑len : Int))
    (V.need (0 < 1 ∧ 0 + (↑x_3.i : Int).toNat < len)
    (V.need (0 < 1 ∧ 0 + (↑x_3.i : Int).toNat < len)
    (nN [(1, .neI 2 0)]
    (V.br ((g (0 + (↑x_3.i : Int).toNat)).tmod (Int.ofNat 2) == Int.ofNat 1)
    (V.need (Int.ofNat 0 ≤ (↑x_3.i : Int) ∧ (↑x_3.i : Int) < (↑len : Int))
    (V.need (0 < 1 ∧ 0 + (↑x_3.i : Int).toNat < len)
    (V.need (0 < 1 ∧ 0 + (↑x_3.i : Int).toNat < len)
    (nN [(1, .neI 16 0)]
    (V.need (Int.ofNat 200 = (↑200 : Int))
    (nN [(1, .pf (IntKind.i64.wrap (Int.ofNat 1 + IntKind.i64.wrap (b.tmod (Int.ofNat 12))) = IntKind.i64.wrap (Int.ofNat 1 + IntKind.i64.wrap (b.tmod (Int.ofNat 12)))) rfl), (3, .eqI 1 1), (1, .eqI 256 256), (1, .eqI 1 1), (1, .pf (IntKind.i64.wrap (Int.ofNat 1 + IntKind.i64.wrap (b.tmod (Int.ofNat 12))) = IntKind.i64.wrap (Int.ofNat 1 + IntKind.i64.wrap (b.tmod (Int.ofNat 12)))) rfl), (1, .pf (lS (cfgIh b x) = lS (cfgIh b x)) rfl), (1, .pf (lE (cfgIh b x) = lE (cfgIh b x)) rfl), (1, .pf (lB (cfgIh b x) = lB (cfgIh b x)) rfl), (1, .pf (lQ (cfgIh b x) = lQ (cfgIh b x)) rfl), (1, .pf (x_2.snd = x_2.snd) rfl), (2, .pf (x_2.fst = x_2.fst) rfl), (1, .pf (x_3.m.lk = x_3.m.lk) rfl), (1, .pf (x_3.m.lc = x_3.m.lc) rfl), (1, .pf (x_3.m.lo = x_3.m.lo) rfl), (1, .pf (x_3.m.ln = x_3.m.ln) rfl), (1, .pf (x_3.m.ct = x_3.m.ct) rfl), (1, .pf (x_2.fst = x_2.fst) rfl), (1, .pf (x_2.fst ≤ x_2.fst) (Nat.le_refl _)), (1, .pf (∀ (e : Nat), e < x_2.fst → x_3.m.g e = x_3.m.g e) (by intros; rfl)), (1, .pf (IntKind.i64.wrap ((g (0 + (↑x_3.i : Int).toNat)).tmod (Int.ofNat 16)) = IntKind.i64.wrap ((g (0 + (↑x_3.i : Int).toNat)).tmod (Int.ofNat 16))) rfl), (1, .pf ((↑x_3.i : Int) = (↑x_3.i : Int)) rfl)]
    (V.need (pIJ (AP.mk (Ly.mk (Int.ofNat 1) (Int.ofNat 1) (Int.ofNat 1) (Int.ofNat 256) (Int.ofNat 1) (IntKind.i64.wrap (Int.ofNat 1 + IntKind.i64.wrap (b.tmod (Int.ofNat 12)))) (lS (cfgIh b x)) (lE (cfgIh b x)) (lB (cfgIh b x)) (lQ (cfgIh b x)) x_2.snd) 8 9 (NV.s x_2.fst) (NV.s x_2.fst) (Mm.mk (fun (e : Nat) => x_3.m.g e) x_3.m.lk x_3.m.lc x_3.m.lo x_3.m.ln x_3.m.ct)) 200)
    (nN [(1, .pf (∃ (x_4 : Rs), x_4 = inR (Ly.mk (Int.ofNat 1) (Int.ofNat 1) (Int.ofNat 1) (Int.ofNat 256) (Int.ofNat 1) (IntKind.i64.wrap (Int.ofNat 1 + IntKind.i64.wrap (b.tmod (Int.ofNat 12)))) (lS (cfgIh b x)) (lE (cfgIh b x)) (lB (cfgIh b x)) (lQ (cfgIh b x)) x_2.snd) x_2.fst (IntKind.i64.wrap ((g (0 + (↑x_3.i : Int).toNat)).tmod (Int.ofNat 16))) (↑x_3.i : Int) 200 (Mm.mk (fun (e : Nat) => x_3.m.g e) x_3.m.lk x_3.m.lc x_3.m.lo x_3.m.ln x_3.m.ct)) ⟨_, rfl⟩)]
    (V.any Rs (fun (r : Rs) => r = inR (Ly.mk (Int.ofNat 1) (Int.ofNat 1) (Int.ofNat 1) (Int.ofNat 256) (Int.ofNat 1) (IntKind.i64.wrap (Int.ofNat 1 + IntKind.i64.wrap (b.tmod (Int.ofNat 12)))) (lS (cfgIh b x)) (lE (cfgIh b x)) (lB (cfgIh b x)) (lQ (cfgIh b x)) x_2.snd) x_2.fst (IntKind.i64.wrap ((g (0 + (↑x_3.i : Int).toNat)).tmod (Int.ofNat 16))) (↑x_3.i : Int) 200 (Mm.mk (fun (e : Nat) => x_3.m.g e) x_3.m.lk x_3.m.lc x_3.m.lo x_3.m.ln x_3.m.ct)) fun (x_4 : Rs) => nN [(2, .lt2 0 1 0 1)]
    (V.br (!(x_4.c == Int.ofNat 3) == ((↑x_3.n : Int) == IntKind.i64.wrap (Int.ofNat 1 + IntKind.i64.wrap (b.tmod (Int.ofNat 12)))))
    (V.bad 420)
    (V.br (x_4.c != Int.ofNat 3)
    (V.br (x_4.c != Int.ofNat 0)
    (V.bad 420)
    (V.br (x_4.c == Int.ofNat 0)
    (V.need (Int.ofNat 0 ≤ (↑x_3.i : Int) ∧ (↑x_3.i : Int) < (↑len : Int))
    (V.need (0 < 1 ∧ 0 + (↑x_3.i : Int).toNat < len)
    (V.need (0 < 1 ∧ 0 + (↑x_3.i : Int).toNat < len)
    (nN [(1, .neI 16 0), (1, .pf (IntKind.i64.wrap ((g (0 + (↑x_3.i : Int).toNat)).tmod (Int.ofNat 16)) = IntKind.i64.wrap ((g (0 + (↑x_3.i : Int).toNat)).tmod (Int.ofNat 16))) rfl), (1, .pf ((↑x_3.q : Int) = (↑x_3.q : Int)) rfl), (1, .pf ((↑x_3.i : Int) = (↑x_3.i : Int)) rfl)]
    (V.need True
    (nN [(1, .pf (∃ (x : Int × Bool), x = (pkW (IntKind.i64.wrap ((g (0 + (↑x_3.i : Int).toNat)).tmod (Int.ofNat 16))) (↑x_3.q : Int) (↑x_3.i : Int), pkB (IntKind.i64.wrap ((g (0 + (↑x_3.i : Int).toNat)).tmod (Int.ofNat 16))) (↑x_3.q : Int) (↑x_3.i : Int))) ⟨_, rfl⟩)]
    (V.any (Int × Bool) (fun (p : Int × Bool) => p = (pkW (IntKind.i64.wrap ((g (0 + (↑x_3.i : Int).toNat)).tmod (Int.ofNat 16))) (↑x_3.q : Int) (↑x_3.i : Int), pkB (IntKind.i64.wrap ((g (0 + (↑x_3.i : Int).toNat)).tmod (Int.ofNat 16))) (↑x_3.q : Int) (↑x_3.i : Int))) fun (x_5 : Int × Bool) => nN [(1, .pf (x_3.n = x_3.n) rfl), (1, .pf (x_3.cp = x_3.cp) rfl), (1, .pf (x_5.fst = x_5.fst) rfl), (1, .le 1 1)]
    (V.need (x_3.n ≤ x_3.n ∧ x_3.n ≤ x_3.cp)
    (nN [(1, .pf (∀ (i e : Nat), i = 0 ∧ e < x_3.n → x_3.a e = x_3.a e) (by intros; rfl))]
    (V.need (x_3.n ≤ 1000)
    (V.need (∃ (x : Nat), x_3.n + 1 ≤ x)
    (V.any Nat (fun (c : Nat) => x_3.n + 1 ≤ c) fun (x_6 : Nat) => nN [(11, .lt2 0 1 0 1), (3, .eqI 1 1), (1, .eqI 256 256), (1, .eqI 1 1), (1, .pf (IntKind.i64.wrap (Int.ofNat 1 + IntKind.i64.wrap (b.tmod (Int.ofNat 12))) = IntKind.i64.wrap (Int.ofNat 1 + IntKind.i64.wrap (b.tmod (Int.ofNat 12)))) rfl), (1, .eqI 1 1), (1, .eqI 0 0), (1, .eqI 1 1), (1, .eq 1 1), (1, .pf (x.fst = x.fst) rfl), (1, .eq 0 0), (1, .pf (x.snd.fst = x.snd.fst) rfl), (1, .le 1 1), (1, .pf (∀ (i : Nat), i < 1 → 1 ≤ 1) (by intros; exact Nat.le_refl _)), (1, .pf (∀ (i e : Nat), i < 1 ∧ e < 1 → e = e) (by intros; rfl)), (1, .pf (∀ (i e : Nat), i < 1 ∧ e < 1 → 0 = 0) (by intros; rfl)), (1, .pf (∀ (i e : Nat), i < 1 ∧ e < 1 → x.snd.snd e = x.snd.snd e) (by intros; rfl)), (1, .le 1 1), (1, .pf (∀ (i : Nat), i < 1 → 0 ≤ 0) (by intros; exact Nat.le_refl _)), (1, .pf (∀ (i e : Nat), i < 1 ∧ e < 0 → uP (fun (x : Nat) => Int.ofNat 0) 0 e = uP (fun (x : Nat) => Int.ofNat 0) 0 e) (by intros; rfl)), (1, .pf (∀ (i e : Nat), i < 1 ∧ e < 0 → uL (fun (x : Nat) => Int.ofNat 0) 0 e = uL (fun (x : Nat) => Int.ofNat 0) 0 e) (by intros; rfl)), (1, .pf (∀ (i e : Nat), i < 1 ∧ e < 0 → uD (fun (x : Nat) => Int.ofNat 0) 0 e = uD (fun (x : Nat) => Int.ofNat 0) 0 e) (by intros; rfl))]
    (V.need (∀ (i : Nat), i < 1 → 0 ≤ gd 1 (fun (x : Nat) => 0) i ∧ 0 ≤ gd 1 (fun (e : Nat) => x.snd.snd e) i)
    (nN [(1, .pf (∀ (i e : Nat), i < 1 ∧ e < 0 → cO (fun (x : Nat) => Int.ofNat 0) 0 i e = cO (fun (x : Nat) => Int.ofNat 0) 0 i e) (by intros; rfl)), (1, .pf (∀ (i e : Nat), i < 1 ∧ e < 0 → cA (fun (x : Nat) => Int.ofNat 0) 0 i e = cA (fun (x : Nat) => Int.ofNat 0) 0 i e) (by intros; rfl)), (1, .pf (∀ (i e : Nat), i < 1 ∧ e < 0 → cB (fun (x : Nat) => Int.ofNat 0) 0 i e = cB (fun (x : Nat) => Int.ofNat 0) 0 i e) (by intros; rfl)), (2, .pf (x_2.fst = x_2.fst) rfl), (1, .pf (x_4.m.lk = x_4.m.lk) rfl), (1, .pf (x_4.m.lc = x_4.m.lc) rfl), (1, .pf (x_4.m.lo = x_4.m.lo) rfl), (1, .pf (x_4.m.ln = x_4.m.ln) rfl), (1, .pf (x_4.m.ct = x_4.m.ct) rfl), (1, .pf (x_2.fst = x_2.fst) rfl), (1, .pf (x_2.fst ≤ x_2.fst) (Nat.le_refl _)), (1, .pf (∀ (e : Nat), e < x_2.fst → x_4.m.g e = x_4.m.g e) (by intros; rfl))]
    (V.need (preSl (cfgIh b x) x_2.fst (Mm.mk (fun (e : Nat) => x_4.m.g e) x_4.m.lk x_4.m.lc x_4.m.lo x_4.m.ln x_4.m.ct))
    (V.need (∃ (x : Nat), cntS (IntKind.i64.wrap (Int.ofNat 1 + IntKind.i64.wrap (b.tmod (Int.ofNat 12)))) (x_4.m.g 2) ≤ x)
    (V.any Nat (fun (cp : Nat) => cntS (IntKind.i64.wrap (Int.ofNat 1 + IntKind.i64.wrap (b.tmod (Int.ofNat 12)))) (x_4.m.g 2) ≤ cp) fun (x_7 : Nat) => nN [(1, .pf (cntS (IntKind.i64.wrap (Int.ofNat 1 + IntKind.i64.wrap (b.tmod (Int.ofNat 12)))) (x_4.m.g 2) = cntS (IntKind.i64.wrap (Int.ofNat 1 + IntKind.i64.wrap (b.tmod (Int.ofNat 12)))) (x_4.m.g 2)) rfl), (1, .pf (x_7 = x_7) rfl), (1, .pf (x_3.n + 1 = x_3.n + 1) rfl), (1, .pf (x_6 = x_6) rfl), (1, .le 1 1)]
    (V.need (cntS (IntKind.i64.wrap (Int.ofNat 1 + IntKind.i64.wrap (b.tmod (Int.ofNat 12)))) (x_4.m.g 2) ≤ cntS (IntKind.i64.wrap (Int.ofNat 1 + IntKind.i64.wrap (b.tmod (Int.ofNat 12)))) (x_4.m.g 2) ∧ cntS (IntKind.i64.wrap (Int.ofNat 1 + IntKind.i64.wrap (b.tmod (Int.ofNat 12)))) (x_4.m.g 2) ≤ x_7)
    (nN [(1, .pf (∀ (i e : Nat), i = 0 ∧ e < cntS (IntKind.i64.wrap (Int.ofNat 1 + IntKind.i64.wrap (b.tmod (Int.ofNat 12)))) (x_4.m.g 2) → x_4.m.g (4 + e) = x_4.m.g (4 + e)) (by intros; rfl)), (1, .le 1 1)]
    (V.need (x_3.n + 1 ≤ x_3.n + 1 ∧ x_3.n + 1 ≤ x_6)
    (nN [(1, .pf (∀ (i e : Nat), i = 0 ∧ e < x_3.n + 1 → upM x_3.n x_5.fst (fun (e : Nat) => x_3.a e) e = upM x_3.n x_5.fst (fun (e : Nat) => x_3.a e) e) (by intros; rfl))]
    (V.need (cntS (IntKind.i64.wrap (Int.ofNat 1 + IntKind.i64.wrap (b.tmod (Int.ofNat 12)))) (x_4.m.g 2) ≤ 100000)
    (V.need (∃ (x : Bool), x = true ↔ cntS (IntKind.i64.wrap (Int.ofNat 1 + IntKind.i64.wrap (b.tmod (Int.ofNat 12)))) (x_4.m.g 2) = x_3.n + 1 ∧ ∀ (j : Nat), j < cntS (IntKind.i64.wrap (Int.ofNat 1 + IntKind.i64.wrap (b.tmod (Int.ofNat 12)))) (x_4.m.g 2) → x_4.m.g (4 + j) = upM x_3.n x_5.fst (fun (e : Nat) => x_3.a e) j)
    (V.any Bool (fun (b_1 : Bool) => b_1 = true ↔ cntS (IntKind.i64.wrap (Int.ofNat 1 + IntKind.i64.wrap (b.tmod (Int.ofNat 12)))) (x_4.m.g 2) = x_3.n + 1 ∧ ∀ (j : Nat), j < cntS (IntKind.i64.wrap (Int.ofNat 1 + IntKind.i64.wrap (b.tmod (Int.ofNat 12)))) (x_4.m.g 2) → x_4.m.g (4 + j) = upM x_3.n x_5.fst (fun (e : Nat) => x_3.a e) j) fun (x_8 : Bool) => V.br (!x_8)
    (V.bad 420)
    (V.need ((IntKind.i64.wrap ((↑x_3.i : Int) + Int.ofNat 1)).toNat ≤ len ∧ (IntKind.i64.wrap ((↑x_3.q : Int) + Int.ofNat 1)).toNat ≤ (IntKind.i64.wrap ((↑x_3.i : Int) + Int.ofNat 1)).toNat ∧ (↑(x_3.n + 1) : Int) ≤ hIh b ∧ x_3.n + 1 ≤ x_6 ∧ x_4.m.g 2 = (↑(x_3.n + 1) : Int) ∧ x_4.m.g 3 = (↑(IntKind.i64.wrap ((↑x_3.q : Int) + Int.ofNat 1)).toNat : Int) ∧ (∀ (j : Nat), j < x_3.n + 1 → upM x_3.n x_5.fst (fun (e : Nat) => x_3.a e) j = x_4.m.g (4 + j)) ∧ (∀ (j : Nat), j < x_3.n + 1 → Int.ofNat 0 ≤ upM x_3.n x_5.fst (fun (e : Nat) => x_3.a e) j ∧ upM x_3.n x_5.fst (fun (e : Nat) => x_3.a e) j ≤ Int.ofNat 18446744073709551615) ∧ x_3.l.n ≤ (IntKind.i64.wrap ((↑x_3.i : Int) + Int.ofNat 1)).toNat ∧ x_3.l.n ≤ x_3.nc)
    (V.need (len - (IntKind.i64.wrap ((↑x_3.i : Int) + Int.ofNat 1)).toNat < len - x_3.i)
    (V.need (IntKind.i64.wrap ((↑x_3.i : Int) + Int.ofNat 1) = (↑(IntKind.i64.wrap ((↑x_3.i : Int) + Int.ofNat 1)).toNat : Int))
    (V.need (IntKind.i64.wrap ((↑x_3.q : Int) + Int.ofNat 1) = (↑(IntKind.i64.wrap ((↑x_3.q : Int) + Int.ofNat 1)).toNat : Int))
    (nN [(1, .pf (x_3.n + 1 = x_3.n + 1) rfl), (1, .pf (x_6 = x_6) rfl), (2, .pf (x_2.fst = x_2.fst) rfl), (1, .pf (x_4.m.lk = x_4.m.lk) rfl), (1, .pf (x_4.m.lc = x_4.m.lc) rfl), (1, .pf (x_4.m.lo = x_4.m.lo) rfl), (1, .pf (x_4.m.ln = x_4.m.ln) rfl), (1, .pf (x_4.m.ct = x_4.m.ct) rfl), (1, .pf (x_2.fst = x_2.fst) rfl), (1, .pf (x_2.fst ≤ x_2.fst) (Nat.le_refl _)), (1, .pf (∀ (e : Nat), e < x_2.fst → x_4.m.g e = x_4.m.g e) (by intros; rfl)), (1, .pf (IntKind.i64.wrap (Int.ofNat 1 + IntKind.i64.wrap (b.tmod (Int.ofNat 12))) = IntKind.i64.wrap (Int.ofNat 1 + IntKind.i64.wrap (b.tmod (Int.ofNat 12)))) rfl), (3, .eqI 1 1), (1, .eqI 256 256), (1, .eqI 1 1), (1, .pf (IntKind.i64.wrap (Int.ofNat 1 + IntKind.i64.wrap (b.tmod (Int.ofNat 12))) = IntKind.i64.wrap (Int.ofNat 1 + IntKind.i64.wrap (b.tmod (Int.ofNat 12)))) rfl), (1, .pf (lS (cfgIh b x) = lS (cfgIh b x)) rfl), (1, .pf (lE (cfgIh b x) = lE (cfgIh b x)) rfl), (1, .pf (lB (cfgIh b x) = lB (cfgIh b x)) rfl), (1, .pf (lQ (cfgIh b x) = lQ (cfgIh b x)) rfl), (1, .pf (x_2.snd = x_2.snd) rfl), (1, .pf (x_3.l.n = x_3.l.n) rfl), (2, .pf (x_3.nc = x_3.nc) rfl), (1, .pf (x_3.l.n ≤ x_3.l.n) (Nat.le_refl _)), (1, .pf (∀ (e : Nat), e < x_3.l.n → x_3.l.v.k e = x_3.l.v.k e) (by intros; rfl)), (1, .pf (∀ (e : Nat), e < x_3.l.n → x_3.l.v.w e = x_3.l.v.w e) (by intros; rfl)), (1, .pf (∀ (e : Nat), e < x_3.l.n → x_3.l.v.t e = x_3.l.v.t e) (by intros; rfl)), (1, .pf (∀ (e : Nat), e < x_3.l.n → x_3.l.v.o e = x_3.l.v.o e) (by intros; rfl)), (1, .pf (∀ (e : Nat), e < x_3.l.n → x_3.l.v.l e = x_3.l.v.l e) (by intros; rfl)), (1, .pf (x_6 = x_6) rfl)]
    (V.need (x_3.n + 1 ≤ x_3.n + 1)
    (nN [(1, .pf (∀ (e : Nat), e < x_3.n + 1 → upM x_3.n x_5.fst (fun (e : Nat) => x_3.a e) e = upM x_3.n x_5.fst (fun (e : Nat) => x_3.a e) e) (by intros; rfl))] V.ok)))))))))))))))))))))))))))))))
    (nN [(11, .lt2 0 1 0 1), (3, .eqI 1 1), (1, .eqI 256 256), (1, .eqI 1 1), (1, .pf (IntKind.i64.wrap (Int.ofNat 1 + IntKind.i64.wrap (b.tmod (Int.ofNat 12))) = IntKind.i64.wrap (Int.ofNat 1 + IntKind.i64.wrap (b.tmod (Int.ofNat 12)))) rfl), (1, .eqI 1 1), (1, .eqI 0 0), (1, .eqI 1 1), (1, .eq 1 1), (1, .pf (x.fst = x.fst) rfl), (1, .eq 0 0), (1, .pf (x.snd.fst = x.snd.fst) rfl), (1, .le 1 1), (1, .pf (∀ (i : Nat), i < 1 → 1 ≤ 1) (by intros; exact Nat.le_refl _)), (1, .pf (∀ (i e : Nat), i < 1 ∧ e < 1 → e = e) (by intros; rfl)), (1, .pf (∀ (i e : Nat), i < 1 ∧ e < 1 → 0 = 0) (by intros; rfl)), (1, .pf (∀ (i e : Nat), i < 1 ∧ e < 1 → x.snd.snd e = x.snd.snd e) (by intros; rfl)), (1, .le 1 1), (1, .pf (∀ (i : Nat), i < 1 → 0 ≤ 0) (by intros; exact Nat.le_refl _)), (1, .pf (∀ (i e : Nat), i < 1 ∧ e < 0 → uP (fun (x : Nat) => Int.ofNat 0) 0 e = uP (fun (x : Nat) => Int.ofNat 0) 0 e) (by intros; rfl)), (1, .pf (∀ (i e : Nat), i < 1 ∧ e < 0 → uL (fun (x : Nat) => Int.ofNat 0) 0 e = uL (fun (x : Nat) => Int.ofNat 0) 0 e) (by intros; rfl)), (1, .pf (∀ (i e : Nat), i < 1 ∧ e < 0 → uD (fun (x : Nat) => Int.ofNat 0) 0 e = uD (fun (x : Nat) => Int.ofNat 0) 0 e) (by intros; rfl))]
    (V.need (∀ (i : Nat), i < 1 → 0 ≤ gd 1 (fun (x : Nat) => 0) i ∧ 0 ≤ gd 1 (fun (e : Nat) => x.snd.snd e) i)
    (nN [(1, .pf (∀ (i e : Nat), i < 1 ∧ e < 0 → cO (fun (x : Nat) => Int.ofNat 0) 0 i e = cO (fun (x : Nat) => Int.ofNat 0) 0 i e) (by intros; rfl)), (1, .pf (∀ (i e : Nat), i < 1 ∧ e < 0 → cA (fun (x : Nat) => Int.ofNat 0) 0 i e = cA (fun (x : Nat) => Int.ofNat 0) 0 i e) (by intros; rfl)), (1, .pf (∀ (i e : Nat), i < 1 ∧ e < 0 → cB (fun (x : Nat) => Int.ofNat 0) 0 i e = cB (fun (x : Nat) => Int.ofNat 0) 0 i e) (by intros; rfl)), (2, .pf (x_2.fst = x_2.fst) rfl), (1, .pf (x_4.m.lk = x_4.m.lk) rfl), (1, .pf (x_4.m.lc = x_4.m.lc) rfl), (1, .pf (x_4.m.lo = x_4.m.lo) rfl), (1, .pf (x_4.m.ln = x_4.m.ln) rfl), (1, .pf (x_4.m.ct = x_4.m.ct) rfl), (1, .pf (x_2.fst = x_2.fst) rfl), (1, .pf (x_2.fst ≤ x_2.fst) (Nat.le_refl _)), (1, .pf (∀ (e : Nat), e < x_2.fst → x_4.m.g e = x_4.m.g e) (by intros; rfl))]
    (V.need (preSl (cfgIh b x) x_2.fst (Mm.mk (fun (e : Nat) => x_4.m.g e) x_4.m.lk x_4.m.lc x_4.m.lo x_4.m.ln x_4.m.ct))
    (V.need (∃ (x : Nat), cntS (IntKind.i64.wrap (Int.ofNat 1 + IntKind.i64.wrap (b.tmod (Int.ofNat 12)))) (x_4.m.g 2) ≤ x)
    (V.any Nat (fun (cp : Nat) => cntS (IntKind.i64.wrap (Int.ofNat 1 + IntKind.i64.wrap (b.tmod (Int.ofNat 12)))) (x_4.m.g 2) ≤ cp) fun (x_5 : Nat) => nN [(1, .pf (cntS (IntKind.i64.wrap (Int.ofNat 1 + IntKind.i64.wrap (b.tmod (Int.ofNat 12)))) (x_4.m.g 2) = cntS (IntKind.i64.wrap (Int.ofNat 1 + IntKind.i64.wrap (b.tmod (Int.ofNat 12)))) (x_4.m.g 2)) rfl), (1, .pf (x_5 = x_5) rfl), (1, .pf (x_3.n = x_3.n) rfl), (1, .pf (x_3.cp = x_3.cp) rfl), (1, .le 1 1)]
    (V.need (cntS (IntKind.i64.wrap (Int.ofNat 1 + IntKind.i64.wrap (b.tmod (Int.ofNat 12)))) (x_4.m.g 2) ≤ cntS (IntKind.i64.wrap (Int.ofNat 1 + IntKind.i64.wrap (b.tmod (Int.ofNat 12)))) (x_4.m.g 2) ∧ cntS (IntKind.i64.wrap (Int.ofNat 1 + IntKind.i64.wrap (b.tmod (Int.ofNat 12)))) (x_4.m.g 2) ≤ x_5)
    (nN [(1, .pf (∀ (i e : Nat), i = 0 ∧ e < cntS (IntKind.i64.wrap (Int.ofNat 1 + IntKind.i64.wrap (b.tmod (Int.ofNat 12)))) (x_4.m.g 2) → x_4.m.g (4 + e) = x_4.m.g (4 + e)) (by intros; rfl)), (1, .le 1 1)]
    (V.need (x_3.n ≤ x_3.n ∧ x_3.n ≤ x_3.cp)
    (nN [(1, .pf (∀ (i e : Nat), i = 0 ∧ e < x_3.n → x_3.a e = x_3.a e) (by intros; rfl))]
    (V.need (cntS (IntKind.i64.wrap (Int.ofNat 1 + IntKind.i64.wrap (b.tmod (Int.ofNat 12)))) (x_4.m.g 2) ≤ 100000)
    (V.need (∃ (x : Bool), x = true ↔ cntS (IntKind.i64.wrap (Int.ofNat 1 + IntKind.i64.wrap (b.tmod (Int.ofNat 12)))) (x_4.m.g 2) = x_3.n ∧ ∀ (j : Nat), j < cntS (IntKind.i64.wrap (Int.ofNat 1 + IntKind.i64.wrap (b.tmod (Int.ofNat 12)))) (x_4.m.g 2) → x_4.m.g (4 + j) = x_3.a j)
    (V.any Bool (fun (b_1 : Bool) => b_1 = true ↔ cntS (IntKind.i64.wrap (Int.ofNat 1 + IntKind.i64.wrap (b.tmod (Int.ofNat 12)))) (x_4.m.g 2) = x_3.n ∧ ∀ (j : Nat), j < cntS (IntKind.i64.wrap (Int.ofNat 1 + IntKind.i64.wrap (b.tmod (Int.ofNat 12)))) (x_4.m.g 2) → x_4.m.g (4 + j) = x_3.a j) fun (x_6 : Bool) => V.br (!x_6)
    (V.bad 420)
    (V.need ((IntKind.i64.wrap ((↑x_3.i : Int) + Int.ofNat 1)).toNat ≤ len ∧ (↑x_3.q : Int).toNat ≤ (IntKind.i64.wrap ((↑x_3.i : Int) + Int.ofNat 1)).toNat ∧ (↑x_3.n : Int) ≤ hIh b ∧ x_3.n ≤ x_3.cp ∧ x_4.m.g 2 = (↑x_3.n : Int) ∧ x_4.m.g 3 = (↑(↑x_3.q : Int).toNat : Int) ∧ (∀ (j : Nat), j < x_3.n → x_3.a j = x_4.m.g (4 + j)) ∧ (∀ (j : Nat), j < x_3.n → Int.ofNat 0 ≤ x_3.a j ∧ x_3.a j ≤ Int.ofNat 18446744073709551615) ∧ x_3.l.n ≤ (IntKind.i64.wrap ((↑x_3.i : Int) + Int.ofNat 1)).toNat ∧ x_3.l.n ≤ x_3.nc)
    (V.need (len - (IntKind.i64.wrap ((↑x_3.i : Int) + Int.ofNat 1)).toNat < len - x_3.i)
    (V.need (IntKind.i64.wrap ((↑x_3.i : Int) + Int.ofNat 1) = (↑(IntKind.i64.wrap ((↑x_3.i : Int) + Int.ofNat 1)).toNat : Int))
    (V.need ((↑x_3.q : Int) = (↑(↑x_3.q : Int).toNat : Int))
    (nN [(1, .pf (x_3.n = x_3.n) rfl), (1, .pf (x_3.cp = x_3.cp) rfl), (2, .pf (x_2.fst = x_2.fst) rfl), (1, .pf (x_4.m.lk = x_4.m.lk) rfl), (1, .pf (x_4.m.lc = x_4.m.lc) rfl), (1, .pf (x_4.m.lo = x_4.m.lo) rfl), (1, .pf (x_4.m.ln = x_4.m.ln) rfl), (1, .pf (x_4.m.ct = x_4.m.ct) rfl), (1, .pf (x_2.fst = x_2.fst) rfl), (1, .pf (x_2.fst ≤ x_2.fst) (Nat.le_refl _)), (1, .pf (∀ (e : Nat), e < x_2.fst → x_4.m.g e = x_4.m.g e) (by intros; rfl)), (1, .pf (IntKind.i64.wrap (Int.ofNat 1 + IntKind.i64.wrap (b.tmod (Int.ofNat 12))) = IntKind.i64.wrap (Int.ofNat 1 + IntKind.i64.wrap (b.tmod (Int.ofNat 12)))) rfl), (3, .eqI 1 1), (1, .eqI 256 256), (1, .eqI 1 1), (1, .pf (IntKind.i64.wrap (Int.ofNat 1 + IntKind.i64.wrap (b.tmod (Int.ofNat 12))) = IntKind.i64.wrap (Int.ofNat 1 + IntKind.i64.wrap (b.tmod (Int.ofNat 12)))) rfl), (1, .pf (lS (cfgIh b x) = lS (cfgIh b x)) rfl), (1, .pf (lE (cfgIh b x) = lE (cfgIh b x)) rfl), (1, .pf (lB (cfgIh b x) = lB (cfgIh b x)) rfl), (1, .pf (lQ (cfgIh b x) = lQ (cfgIh b x)) rfl), (1, .pf (x_2.snd = x_2.snd) rfl), (1, .pf (x_3.l.n = x_3.l.n) rfl), (2, .pf (x_3.nc = x_3.nc) rfl), (1, .pf (x_3.l.n ≤ x_3.l.n) (Nat.le_refl _)), (1, .pf (∀ (e : Nat), e < x_3.l.n → x_3.l.v.k e = x_3.l.v.k e) (by intros; rfl)), (1, .pf (∀ (e : Nat), e < x_3.l.n → x_3.l.v.w e = x_3.l.v.w e) (by intros; rfl)), (1, .pf (∀ (e : Nat), e < x_3.l.n → x_3.l.v.t e = x_3.l.v.t e) (by intros; rfl)), (1, .pf (∀ (e : Nat), e < x_3.l.n → x_3.l.v.o e = x_3.l.v.o e) (by intros; rfl)), (1, .pf (∀ (e : Nat), e < x_3.l.n → x_3.l.v.l e = x_3.l.v.l e) (by intros; rfl)), (1, .pf (x_3.cp = x_3.cp) rfl), (1, .pf (x_3.n ≤ x_3.n) (Nat.le_refl _)), (1, .pf (∀ (e : Nat), e < x_3.n → x_3.a e = x_3.a e) (by intros; rfl))] V.ok))))))))))))))))))))
    (V.br (x_4.c == Int.ofNat 0)
    (V.need (Int.ofNat 0 ≤ (↑x_3.i : Int) ∧ (↑x_3.i : Int) < (↑len : Int))
    (V.need (0 < 1 ∧ 0 + (↑x_3.i : Int).toNat < len)
    (V.need (0 < 1 ∧ 0 + (↑x_3.i : Int).toNat < len)
    (nN [(1, .neI 16 0), (1, .pf (IntKind.i64.wrap ((g (0 + (↑x_3.i : Int).toNat)).tmod (Int.ofNat 16)) = IntKind.i64.wrap ((g (0 + (↑x_3.i : Int).toNat)).tmod (Int.ofNat 16))) rfl), (1, .pf ((↑x_3.q : Int) = (↑x_3.q : Int)) rfl), (1, .pf ((↑x_3.i : Int) = (↑x_3.i : Int)) rfl)]
    (V.need True
    (nN [(1, .pf (∃ (x : Int × Bool), x = (pkW (IntKind.i64.wrap ((g (0 + (↑x_3.i : Int).toNat)).tmod (Int.ofNat 16))) (↑x_3.q : Int) (↑x_3.i : Int), pkB (IntKind.i64.wrap ((g (0 + (↑x_3.i : Int).toNat)).tmod (Int.ofNat 16))) (↑x_3.q : Int) (↑x_3.i : Int))) ⟨_, rfl⟩)]
    (V.any (Int × Bool) (fun (p : Int × Bool) => p = (pkW (IntKind.i64.wrap ((g (0 + (↑x_3.i : Int).toNat)).tmod (Int.ofNat 16))) (↑x_3.q : Int) (↑x_3.i : Int), pkB (IntKind.i64.wrap ((g (0 + (↑x_3.i : Int).toNat)).tmod (Int.ofNat 16))) (↑x_3.q : Int) (↑x_3.i : Int))) fun (x_5 : Int × Bool) => nN [(1, .pf (x_3.n = x_3.n) rfl), (1, .pf (x_3.cp = x_3.cp) rfl), (1, .pf (x_5.fst = x_5.fst) rfl), (1, .le 1 1)]
    (V.need (x_3.n ≤ x_3.n ∧ x_3.n ≤ x_3.cp)
    (nN [(1, .pf (∀ (i e : Nat), i = 0 ∧ e < x_3.n → x_3.a e = x_3.a e) (by intros; rfl))]
    (V.need (x_3.n ≤ 1000)
    (V.need (∃ (x : Nat), x_3.n + 1 ≤ x)
    (V.any Nat (fun (c : Nat) => x_3.n + 1 ≤ c) fun (x_6 : Nat) => nN [(11, .lt2 0 1 0 1), (3, .eqI 1 1), (1, .eqI 256 256), (1, .eqI 1 1), (1, .pf (IntKind.i64.wrap (Int.ofNat 1 + IntKind.i64.wrap (b.tmod (Int.ofNat 12))) = IntKind.i64.wrap (Int.ofNat 1 + IntKind.i64.wrap (b.tmod (Int.ofNat 12)))) rfl), (1, .eqI 1 1), (1, .eqI 0 0), (1, .eqI 1 1), (1, .eq 1 1), (1, .pf (x.fst = x.fst) rfl), (1, .eq 0 0), (1, .pf (x.snd.fst = x.snd.fst) rfl), (1, .le 1 1), (1, .pf (∀ (i : Nat), i < 1 → 1 ≤ 1) (by intros; exact Nat.le_refl _)), (1, .pf (∀ (i e : Nat), i < 1 ∧ e < 1 → e = e) (by intros; rfl)), (1, .pf (∀ (i e : Nat), i < 1 ∧ e < 1 → 0 = 0) (by intros; rfl)), (1, .pf (∀ (i e : Nat), i < 1 ∧ e < 1 → x.snd.snd e = x.snd.snd e) (by intros; rfl)), (1, .le 1 1), (1, .pf (∀ (i : Nat), i < 1 → 0 ≤ 0) (by intros; exact Nat.le_refl _)), (1, .pf (∀ (i e : Nat), i < 1 ∧ e < 0 → uP (fun (x : Nat) => Int.ofNat 0) 0 e = uP (fun (x : Nat) => Int.ofNat 0) 0 e) (by intros; rfl)), (1, .pf (∀ (i e : Nat), i < 1 ∧ e < 0 → uL (fun (x : Nat) => Int.ofNat 0) 0 e = uL (fun (x : Nat) => Int.ofNat 0) 0 e) (by intros; rfl)), (1, .pf (∀ (i e : Nat), i < 1 ∧ e < 0 → uD (fun (x : Nat) => Int.ofNat 0) 0 e = uD (fun (x : Nat) => Int.ofNat 0) 0 e) (by intros; rfl))]
    (V.need (∀ (i : Nat), i < 1 → 0 ≤ gd 1 (fun (x : Nat) => 0) i ∧ 0 ≤ gd 1 (fun (e : Nat) => x.snd.snd e) i)
    (nN [(1, .pf (∀ (i e : Nat), i < 1 ∧ e < 0 → cO (fun (x : Nat) => Int.ofNat 0) 0 i e = cO (fun (x : Nat) => Int.ofNat 0) 0 i e) (by intros; rfl)), (1, .pf (∀ (i e : Nat), i < 1 ∧ e < 0 → cA (fun (x : Nat) => Int.ofNat 0) 0 i e = cA (fun (x : Nat) => Int.ofNat 0) 0 i e) (by intros; rfl)), (1, .pf (∀ (i e : Nat), i < 1 ∧ e < 0 → cB (fun (x : Nat) => Int.ofNat 0) 0 i e = cB (fun (x : Nat) => Int.ofNat 0) 0 i e) (by intros; rfl)), (2, .pf (x_2.fst = x_2.fst) rfl), (1, .pf (x_4.m.lk = x_4.m.lk) rfl), (1, .pf (x_4.m.lc = x_4.m.lc) rfl), (1, .pf (x_4.m.lo = x_4.m.lo) rfl), (1, .pf (x_4.m.ln = x_4.m.ln) rfl), (1, .pf (x_4.m.ct = x_4.m.ct) rfl), (1, .pf (x_2.fst = x_2.fst) rfl), (1, .pf (x_2.fst ≤ x_2.fst) (Nat.le_refl _)), (1, .pf (∀ (e : Nat), e < x_2.fst → x_4.m.g e = x_4.m.g e) (by intros; rfl))]
    (V.need (preSl (cfgIh b x) x_2.fst (Mm.mk (fun (e : Nat) => x_4.m.g e) x_4.m.lk x_4.m.lc x_4.m.lo x_4.m.ln x_4.m.ct))
    (V.need (∃ (x : Nat), cntS (IntKind.i64.wrap (Int.ofNat 1 + IntKind.i64.wrap (b.tmod (Int.ofNat 12)))) (x_4.m.g 2) ≤ x)
    (V.any Nat (fun (cp : Nat) => cntS (IntKind.i64.wrap (Int.ofNat 1 + IntKind.i64.wrap (b.tmod (Int.ofNat 12)))) (x_4.m.g 2) ≤ cp) fun (x_7 : Nat) => nN [(1, .pf (cntS (IntKind.i64.wrap (Int.ofNat 1 + IntKind.i64.wrap (b.tmod (Int.ofNat 12)))) (x_4.m.g 2) = cntS (IntKind.i64.wrap (Int.ofNat 1 + IntKind.i64.wrap (b.tmod (Int.ofNat 12)))) (x_4.m.g 2)) rfl), (1, .pf (x_7 = x_7) rfl), (1, .pf (x_3.n + 1 = x_3.n + 1) rfl), (1, .pf (x_6 = x_6) rfl), (1, .le 1 1)]
    (V.need (cntS (IntKind.i64.wrap (Int.ofNat 1 + IntKind.i64.wrap (b.tmod (Int.ofNat 12)))) (x_4.m.g 2) ≤ cntS (IntKind.i64.wrap (Int.ofNat 1 + IntKind.i64.wrap (b.tmod (Int.ofNat 12)))) (x_4.m.g 2) ∧ cntS (IntKind.i64.wrap (Int.ofNat 1 + IntKind.i64.wrap (b.tmod (Int.ofNat 12)))) (x_4.m.g 2) ≤ x_7)
    (nN [(1, .pf (∀ (i e : Nat), i = 0 ∧ e < cntS (IntKind.i64.wrap (Int.ofNat 1 + IntKind.i64.wrap (b.tmod (Int.ofNat 12)))) (x_4.m.g 2) → x_4.m.g (4 + e) = x_4.m.g (4 + e)) (by intros; rfl)), (1, .le 1 1)]
    (V.need (x_3.n + 1 ≤ x_3.n + 1 ∧ x_3.n + 1 ≤ x_6)
    (nN [(1, .pf (∀ (i e : Nat), i = 0 ∧ e < x_3.n + 1 → upM x_3.n x_5.fst (fun (e : Nat) => x_3.a e) e = upM x_3.n x_5.fst (fun (e : Nat) => x_3.a e) e) (by intros; rfl))]
    (V.need (cntS (IntKind.i64.wrap (Int.ofNat 1 + IntKind.i64.wrap (b.tmod (Int.ofNat 12)))) (x_4.m.g 2) ≤ 100000)
    (V.need (∃ (x : Bool), x = true ↔ cntS (IntKind.i64.wrap (Int.ofNat 1 + IntKind.i64.wrap (b.tmod (Int.ofNat 12)))) (x_4.m.g 2) = x_3.n + 1 ∧ ∀ (j : Nat), j < cntS (IntKind.i64.wrap (Int.ofNat 1 + IntKind.i64.wrap (b.tmod (Int.ofNat 12)))) (x_4.m.g 2) → x_4.m.g (4 + j) = upM x_3.n x_5.fst (fun (e : Nat) => x_3.a e) j)
    (V.any Bool (fun (b_1 : Bool) => b_1 = true ↔ cntS (IntKind.i64.wrap (Int.ofNat 1 + IntKind.i64.wrap (b.tmod (Int.ofNat 12)))) (x_4.m.g 2) = x_3.n + 1 ∧ ∀ (j : Nat), j < cntS (IntKind.i64.wrap (Int.ofNat 1 + IntKind.i64.wrap (b.tmod (Int.ofNat 12)))) (x_4.m.g 2) → x_4.m.g (4 + j) = upM x_3.n x_5.fst (fun (e : Nat) => x_3.a e) j) fun (x_8 : Bool) => V.br (!x_8)
    (V.bad 420)
    (V.need ((IntKind.i64.wrap ((↑x_3.i : Int) + Int.ofNat 1)).toNat ≤ len ∧ (IntKind.i64.wrap ((↑x_3.q : Int) + Int.ofNat 1)).toNat ≤ (IntKind.i64.wrap ((↑x_3.i : Int) + Int.ofNat 1)).toNat ∧ (↑(x_3.n + 1) : Int) ≤ hIh b ∧ x_3.n + 1 ≤ x_6 ∧ x_4.m.g 2 = (↑(x_3.n + 1) : Int) ∧ x_4.m.g 3 = (↑(IntKind.i64.wrap ((↑x_3.q : Int) + Int.ofNat 1)).toNat : Int) ∧ (∀ (j : Nat), j < x_3.n + 1 → upM x_3.n x_5.fst (fun (e : Nat) => x_3.a e) j = x_4.m.g (4 + j)) ∧ (∀ (j : Nat), j < x_3.n + 1 → Int.ofNat 0 ≤ upM x_3.n x_5.fst (fun (e : Nat) => x_3.a e) j ∧ upM x_3.n x_5.fst (fun (e : Nat) => x_3.a e) j ≤ Int.ofNat 18446744073709551615) ∧ x_3.l.n ≤ (IntKind.i64.wrap ((↑x_3.i : Int) + Int.ofNat 1)).toNat ∧ x_3.l.n ≤ x_3.nc)
    (V.need (len - (IntKind.i64.wrap ((↑x_3.i : Int) + Int.ofNat 1)).toNat < len - x_3.i)
    (V.need (IntKind.i64.wrap ((↑x_3.i : Int) + Int.ofNat 1) = (↑(IntKind.i64.wrap ((↑x_3.i : Int) + Int.ofNat 1)).toNat : Int))
    (V.need (IntKind.i64.wrap ((↑x_3.q : Int) + Int.ofNat 1) = (↑(IntKind.i64.wrap ((↑x_3.q : Int) + Int.ofNat 1)).toNat : Int))
    (nN [(1, .pf (x_3.n + 1 = x_3.n + 1) rfl), (1, .pf (x_6 = x_6) rfl), (2, .pf (x_2.fst = x_2.fst) rfl), (1, .pf (x_4.m.lk = x_4.m.lk) rfl), (1, .pf (x_4.m.lc = x_4.m.lc) rfl), (1, .pf (x_4.m.lo = x_4.m.lo) rfl), (1, .pf (x_4.m.ln = x_4.m.ln) rfl), (1, .pf (x_4.m.ct = x_4.m.ct) rfl), (1, .pf (x_2.fst = x_2.fst) rfl), (1, .pf (x_2.fst ≤ x_2.fst) (Nat.le_refl _)), (1, .pf (∀ (e : Nat), e < x_2.fst → x_4.m.g e = x_4.m.g e) (by intros; rfl)), (1, .pf (IntKind.i64.wrap (Int.ofNat 1 + IntKind.i64.wrap (b.tmod (Int.ofNat 12))) = IntKind.i64.wrap (Int.ofNat 1 + IntKind.i64.wrap (b.tmod (Int.ofNat 12)))) rfl), (3, .eqI 1 1), (1, .eqI 256 256), (1, .eqI 1 1), (1, .pf (IntKind.i64.wrap (Int.ofNat 1 + IntKind.i64.wrap (b.tmod (Int.ofNat 12))) = IntKind.i64.wrap (Int.ofNat 1 + IntKind.i64.wrap (b.tmod (Int.ofNat 12)))) rfl), (1, .pf (lS (cfgIh b x) = lS (cfgIh b x)) rfl), (1, .pf (lE (cfgIh b x) = lE (cfgIh b x)) rfl), (1, .pf (lB (cfgIh b x) = lB (cfgIh b x)) rfl), (1, .pf (lQ (cfgIh b x) = lQ (cfgIh b x)) rfl), (1, .pf (x_2.snd = x_2.snd) rfl), (1, .pf (x_3.l.n = x_3.l.n) rfl), (2, .pf (x_3.nc = x_3.nc) rfl), (1, .pf (x_3.l.n ≤ x_3.l.n) (Nat.le_refl _)), (1, .pf (∀ (e : Nat), e < x_3.l.n → x_3.l.v.k e = x_3.l.v.k e) (by intros; rfl)), (1, .pf (∀ (e : Nat), e < x_3.l.n → x_3.l.v.w e = x_3.l.v.w e) (by intros; rfl)), (1, .pf (∀ (e : Nat), e < x_3.l.n → x_3.l.v.t e = x_3.l.v.t e) (by intros; rfl)), (1, .pf (∀ (e : Nat), e < x_3.l.n → x_3.l.v.o e = x_3.l.v.o e) (by intros; rfl)), (1, .pf (∀ (e : Nat), e < x_3.l.n → x_3.l.v.l e = x_3.l.v.l e) (by intros; rfl)), (1, .pf (x_6 = x_6) rfl)]
    (V.need (x_3.n + 1 ≤ x_3.n + 1)
    (nN [(1, .pf (∀ (e : Nat), e < x_3.n + 1 → upM x_3.n x_5.fst (fun (e : Nat) => x_3.a e) e = upM x_3.n x_5.fst (fun (e : Nat) => x_3.a e) e) (by intros; rfl))] V.ok)))))))))))))))))))))))))))))))
    (nN [(11, .lt2 0 1 0 1), (3, .eqI 1 1), (1, .eqI 256 256), (1, .eqI 1 1), (1, .pf (IntKind.i64.wrap (Int.ofNat 1 + IntKind.i64.wrap (b.tmod (Int.ofNat 12))) = IntKind.i64.wrap (Int.ofNat 1 + IntKind.i64.wrap (b.tmod (Int.ofNat 12)))) rfl), (1, .eqI 1 1), (1, .eqI 0 0), (1, .eqI 1 1), (1, .eq 1 1), (1, .pf (x.fst = x.fst) rfl), (1, .eq 0 0), (1, .pf (x.snd.fst = x.snd.fst) rfl), (1, .le 1 1), (1, .pf (∀ (i : Nat), i < 1 → 1 ≤ 1) (by intros; exact Nat.le_refl _)), (1, .pf (∀ (i e : Nat), i < 1 ∧ e < 1 → e = e) (by intros; rfl)), (1, .pf (∀ (i e : Nat), i < 1 ∧ e < 1 → 0 = 0) (by intros; rfl)), (1, .pf (∀ (i e : Nat), i < 1 ∧ e < 1 → x.snd.snd e = x.snd.snd e) (by intros; rfl)), (1, .le 1 1), (1, .pf (∀ (i : Nat), i < 1 → 0 ≤ 0) (by intros; exact Nat.le_refl _)), (1, .pf (∀ (i e : Nat), i < 1 ∧ e < 0 → uP (fun (x : Nat) => Int.ofNat 0) 0 e = uP (fun (x : Nat) => Int.ofNat 0) 0 e) (by intros; rfl)), (1, .pf (∀ (i e : Nat), i < 1 ∧ e < 0 → uL (fun (x : Nat) => Int.ofNat 0) 0 e = uL (fun (x : Nat) => Int.ofNat 0) 0 e) (by intros; rfl)), (1, .pf (∀ (i e : Nat), i < 1 ∧ e < 0 → uD (fun (x : Nat) => Int.ofNat 0) 0 e = uD (fun (x : Nat) => Int.ofNat 0) 0 e) (by intros; rfl))]
    (V.need (∀ (i : Nat), i < 1 → 0 ≤ gd 1 (fun (x : Nat) => 0) i ∧ 0 ≤ gd 1 (fun (e : Nat) => x.snd.snd e) i)
    (nN [(1, .pf (∀ (i e : Nat), i < 1 ∧ e < 0 → cO (fun (x : Nat) => Int.ofNat 0) 0 i e = cO (fun (x : Nat) => Int.ofNat 0) 0 i e) (by intros; rfl)), (1, .pf (∀ (i e : Nat), i < 1 ∧ e < 0 → cA (fun (x : Nat) => Int.ofNat 0) 0 i e = cA (fun (x : Nat) => Int.ofNat 0) 0 i e) (by intros; rfl)), (1, .pf (∀ (i e : Nat), i < 1 ∧ e < 0 → cB (fun (x : Nat) => Int.ofNat 0) 0 i e = cB (fun (x : Nat) => Int.ofNat 0) 0 i e) (by intros; rfl)), (2, .pf (x_2.fst = x_2.fst) rfl), (1, .pf (x_4.m.lk = x_4.m.lk) rfl), (1, .pf (x_4.m.lc = x_4.m.lc) rfl), (1, .pf (x_4.m.lo = x_4.m.lo) rfl), (1, .pf (x_4.m.ln = x_4.m.ln) rfl), (1, .pf (x_4.m.ct = x_4.m.ct) rfl), (1, .pf (x_2.fst = x_2.fst) rfl), (1, .pf (x_2.fst ≤ x_2.fst) (Nat.le_refl _)), (1, .pf (∀ (e : Nat), e < x_2.fst → x_4.m.g e = x_4.m.g e) (by intros; rfl))]
    (V.need (preSl (cfgIh b x) x_2.fst (Mm.mk (fun (e : Nat) => x_4.m.g e) x_4.m.lk x_4.m.lc x_4.m.lo x_4.m.ln x_4.m.ct))
    (V.need (∃ (x : Nat), cntS (IntKind.i64.wrap (Int.ofNat 1 + IntKind.i64.wrap (b.tmod (Int.ofNat 12)))) (x_4.m.g 2) ≤ x)
    (V.any Nat (fun (cp : Nat) => cntS (IntKind.i64.wrap (Int.ofNat 1 + IntKind.i64.wrap (b.tmod (Int.ofNat 12)))) (x_4.m.g 2) ≤ cp) fun (x_5 : Nat) => nN [(1, .pf (cntS (IntKind.i64.wrap (Int.ofNat 1 + IntKind.i64.wrap (b.tmod (Int.ofNat 12)))) (x_4.m.g 2) = cntS (IntKind.i64.wrap (Int.ofNat 1 + IntKind.i64.wrap (b.tmod (Int.ofNat 12)))) (x_4.m.g 2)) rfl), (1, .pf (x_5 = x_5) rfl), (1, .pf (x_3.n = x_3.n) rfl), (1, .pf (x_3.cp = x_3.cp) rfl), (1, .le 1 1)]
    (V.need (cntS (IntKind.i64.wrap (Int.ofNat 1 + IntKind.i64.wrap (b.tmod (Int.ofNat 12)))) (x_4.m.g 2) ≤ cntS (IntKind.i64.wrap (Int.ofNat 1 + IntKind.i64.wrap (b.tmod (Int.ofNat 12)))) (x_4.m.g 2) ∧ cntS (IntKind.i64.wrap (Int.ofNat 1 + IntKind.i64.wrap (b.tmod (Int.ofNat 12)))) (x_4.m.g 2) ≤ x_5)
    (nN [(1, .pf (∀ (i e : Nat), i = 0 ∧ e < cntS (IntKind.i64.wrap (Int.ofNat 1 + IntKind.i64.wrap (b.tmod (Int.ofNat 12)))) (x_4.m.g 2) → x_4.m.g (4 + e) = x_4.m.g (4 + e)) (by intros; rfl)), (1, .le 1 1)]
    (V.need (x_3.n ≤ x_3.n ∧ x_3.n ≤ x_3.cp)
    (nN [(1, .pf (∀ (i e : Nat), i = 0 ∧ e < x_3.n → x_3.a e = x_3.a e) (by intros; rfl))]
    (V.need (cntS (IntKind.i64.wrap (Int.ofNat 1 + IntKind.i64.wrap (b.tmod (Int.ofNat 12)))) (x_4.m.g 2) ≤ 100000)
    (V.need (∃ (x : Bool), x = true ↔ cntS (IntKind.i64.wrap (Int.ofNat 1 + IntKind.i64.wrap (b.tmod (Int.ofNat 12)))) (x_4.m.g 2) = x_3.n ∧ ∀ (j : Nat), j < cntS (IntKind.i64.wrap (Int.ofNat 1 + IntKind.i64.wrap (b.tmod (Int.ofNat 12)))) (x_4.m.g 2) → x_4.m.g (4 + j) = x_3.a j)
    (V.any Bool (fun (b_1 : Bool) => b_1 = true ↔ cntS (IntKind.i64.wrap (Int.ofNat 1 + IntKind.i64.wrap (b.tmod (Int.ofNat 12)))) (x_4.m.g 2) = x_3.n ∧ ∀ (j : Nat), j < cntS (IntKind.i64.wrap (Int.ofNat 1 + IntKind.i64.wrap (b.tmod (Int.ofNat 12)))) (x_4.m.g 2) → x_4.m.g (4 + j) = x_3.a j) fun (x_6 : Bool) => V.br (!x_6)
    (V.bad 420)
    (V.need ((IntKind.i64.wrap ((↑x_3.i : Int) + Int.ofNat 1)).toNat ≤ len ∧ (↑x_3.q : Int).toNat ≤ (IntKind.i64.wrap ((↑x_3.i : Int) + Int.ofNat 1)).toNat ∧ (↑x_3.n : Int) ≤ hIh b ∧ x_3.n ≤ x_3.cp ∧ x_4.m.g 2 = (↑x_3.n : Int) ∧ x_4.m.g 3 = (↑(↑x_3.q : Int).toNat : Int) ∧ (∀ (j : Nat), j < x_3.n → x_3.a j = x_4.m.g (4 + j)) ∧ (∀ (j : Nat), j < x_3.n → Int.ofNat 0 ≤ x_3.a j ∧ x_3.a j ≤ Int.ofNat 18446744073709551615) ∧ x_3.l.n ≤ (IntKind.i64.wrap ((↑x_3.i : Int) + Int.ofNat 1)).toNat ∧ x_3.l.n ≤ x_3.nc)
    (V.need (len - (IntKind.i64.wrap ((↑x_3.i : Int) + Int.ofNat 1)).toNat < len - x_3.i)
    (V.need (IntKind.i64.wrap ((↑x_3.i : Int) + Int.ofNat 1) = (↑(IntKind.i64.wrap ((↑x_3.i : Int) + Int.ofNat 1)).toNat : Int))
    (V.need ((↑x_3.q : Int) = (↑(↑x_3.q : Int).toNat : Int))
    (nN [(1, .pf (x_3.n = x_3.n) rfl), (1, .pf (x_3.cp = x_3.cp) rfl), (2, .pf (x_2.fst = x_2.fst) rfl), (1, .pf (x_4.m.lk = x_4.m.lk) rfl), (1, .pf (x_4.m.lc = x_4.m.lc) rfl), (1, .pf (x_4.m.lo = x_4.m.lo) rfl), (1, .pf (x_4.m.ln = x_4.m.ln) rfl), (1, .pf (x_4.m.ct = x_4.m.ct) rfl), (1, .pf (x_2.fst = x_2.fst) rfl), (1, .pf (x_2.fst ≤ x_2.fst) (Nat.le_refl _)), (1, .pf (∀ (e : Nat), e < x_2.fst → x_4.m.g e = x_4.m.g e) (by intros; rfl)), (1, .pf (IntKind.i64.wrap (Int.ofNat 1 + IntKind.i64.wrap (b.tmod (Int.ofNat 12))) = IntKind.i64.wrap (Int.ofNat 1 + IntKind.i64.wrap (b.tmod (Int.ofNat 12)))) rfl), (3, .eqI 1 1), (1, .eqI 256 256), (1, .eqI 1 1), (1, .pf (IntKind.i64.wrap (Int.ofNat 1 + IntKind.i64.wrap (b.tmod (Int.ofNat 12))) = IntKind.i64.wrap (Int.ofNat 1 + IntKind.i64.wrap (b.tmod (Int.ofNat 12)))) rfl), (1, .pf (lS (cfgIh b x) = lS (cfgIh b x)) rfl), (1, .pf (lE (cfgIh b x) = lE (cfgIh b x)) rfl), (1, .pf (lB (cfgIh b x) = lB (cfgIh b x)) rfl), (1, .pf (lQ (cfgIh b x) = lQ (cfgIh b x)) rfl), (1, .pf (x_2.snd = x_2.snd) rfl), (1, .pf (x_3.l.n = x_3.l.n) rfl), (2, .pf (x_3.nc = x_3.nc) rfl), (1, .pf (x_3.l.n ≤ x_3.l.n) (Nat.le_refl _)), (1, .pf (∀ (e : Nat), e < x_3.l.n → x_3.l.v.k e = x_3.l.v.k e) (by intros; rfl)), (1, .pf (∀ (e : Nat), e < x_3.l.n → x_3.l.v.w e = x_3.l.v.w e) (by intros; rfl)), (1, .pf (∀ (e : Nat), e < x_3.l.n → x_3.l.v.t e = x_3.l.v.t e) (by intros; rfl)), (1, .pf (∀ (e : Nat), e < x_3.l.n → x_3.l.v.o e = x_3.l.v.o e) (by intros; rfl)), (1, .pf (∀ (e : Nat), e < x_3.l.n → x_3.l.v.l e = x_3.l.v.l e) (by intros; rfl)), (1, .pf (x_3.cp = x_3.cp) rfl), (1, .pf (x_3.n ≤ x_3.n) (Nat.le_refl _)), (1, .pf (∀ (e : Nat), e < x_3.n → x_3.a e = x_3.a e) (by intros; rfl))] V.ok))))))))))))))))))))))))))))))
    (V.need (Int.ofNat 200 = (↑200 : Int))
    (nN [(1, .pf (IntKind.i64.wrap (Int.ofNat 1 + IntKind.i64.wrap (b.tmod (Int.ofNat 12))) = IntKind.i64.wrap (Int.ofNat 1 + IntKind.i64.wrap (b.tmod (Int.ofNat 12)))) rfl), (3, .eqI 1 1), (1, .eqI 256 256), (1, .eqI 1 1), (1, .pf (IntKind.i64.wrap (Int.ofNat 1 + IntKind.i64.wrap (b.tmod (Int.ofNat 12))) = IntKind.i64.wrap (Int.ofNat 1 + IntKind.i64.wrap (b.tmod (Int.ofNat 12)))) rfl), (1, .pf (lS (cfgIh b x) = lS (cfgIh b x)) rfl), (1, .pf (lE (cfgIh b x) = lE (cfgIh b x)) rfl), (1, .pf (lB (cfgIh b x) = lB (cfgIh b x)) rfl), (1, .pf (lQ (cfgIh b x) = lQ (cfgIh b x)) rfl), (1, .pf (x_2.snd = x_2.snd) rfl), (1, .pf (x_3.l.n = x_3.l.n) rfl), (1, .pf (x_3.nc = x_3.nc) rfl), (2, .pf (x_2.fst = x_2.fst) rfl), (1, .pf (x_3.m.lk = x_3.m.lk) rfl), (1, .pf (x_3.m.lc = x_3.m.lc) rfl), (1, .pf (x_3.m.lo = x_3.m.lo) rfl), (1, .pf (x_3.m.ln = x_3.m.ln) rfl), (1, .pf (x_3.m.ct = x_3.m.ct) rfl), (1, .pf (x_2.fst = x_2.fst) rfl), (1, .pf (x_2.fst ≤ x_2.fst) (Nat.le_refl _)), (1, .pf (∀ (e : Nat), e < x_2.fst → x_3.m.g e = x_3.m.g e) (by intros; rfl)), (1, .pf (x_3.nc = x_3.nc) rfl), (1, .pf (x_3.l.n ≤ x_3.l.n) (Nat.le_refl _)), (1, .pf (∀ (e : Nat), e < x_3.l.n → x_3.l.v.k e = x_3.l.v.k e) (by intros; rfl)), (1, .pf (∀ (e : Nat), e < x_3.l.n → x_3.l.v.w e = x_3.l.v.w e) (by intros; rfl)), (1, .pf (∀ (e : Nat), e < x_3.l.n → x_3.l.v.t e = x_3.l.v.t e) (by intros; rfl)), (1, .pf (∀ (e : Nat), e < x_3.l.n → x_3.l.v.o e = x_3.l.v.o e) (by intros; rfl)), (1, .pf (∀ (e : Nat), e < x_3.l.n → x_3.l.v.l e = x_3.l.v.l e) (by intros; rfl)), (1, .eqI 0 0)]
    (V.need (pIJ (AP.mk (Ly.mk (Int.ofNat 1) (Int.ofNat 1) (Int.ofNat 1) (Int.ofNat 256) (Int.ofNat 1) (IntKind.i64.wrap (Int.ofNat 1 + IntKind.i64.wrap (b.tmod (Int.ofNat 12)))) (lS (cfgIh b x)) (lE (cfgIh b x)) (lB (cfgIh b x)) (lQ (cfgIh b x)) x_2.snd) 8 9 (NV.s x_2.fst) (NV.s x_2.fst) (Mm.mk (fun (e : Nat) => x_3.m.g e) x_3.m.lk x_3.m.lc x_3.m.lo x_3.m.ln x_3.m.ct)) 200 ∧ x_3.l.n ≤ x_3.nc ∧ x_3.l.n ≤ 1000)
    (V.need (∃ (x_4 : Re × Nat), x_4.fst = rmR (Ly.mk (Int.ofNat 1) (Int.ofNat 1) (Int.ofNat 1) (Int.ofNat 256) (Int.ofNat 1) (IntKind.i64.wrap (Int.ofNat 1 + IntKind.i64.wrap (b.tmod (Int.ofNat 12)))) (lS (cfgIh b x)) (lE (cfgIh b x)) (lB (cfgIh b x)) (lQ (cfgIh b x)) x_2.snd) x_2.fst (Int.ofNat 0) 200 (Mm.mk (fun (e : Nat) => x_3.m.g e) x_3.m.lk x_3.m.lc x_3.m.lo x_3.m.ln x_3.m.ct) (El.mk x_3.l.n (Evs.mk (fun (i : Nat) => x_3.l.v.k i) (fun (i : Nat) => x_3.l.v.w i) (fun (i : Nat) => x_3.l.v.t i) (fun (i : Nat) => x_3.l.v.o i) fun (i : Nat) => x_3.l.v.l i)) ∧ (rmR (Ly.mk (Int.ofNat 1) (Int.ofNat 1) (Int.ofNat 1) (Int.ofNat 256) (Int.ofNat 1) (IntKind.i64.wrap (Int.ofNat 1 + IntKind.i64.wrap (b.tmod (Int.ofNat 12)))) (lS (cfgIh b x)) (lE (cfgIh b x)) (lB (cfgIh b x)) (lQ (cfgIh b x)) x_2.snd) x_2.fst (Int.ofNat 0) 200 (Mm.mk (fun (e : Nat) => x_3.m.g e) x_3.m.lk x_3.m.lc x_3.m.lo x_3.m.ln x_3.m.ct) (El.mk x_3.l.n (Evs.mk (fun (i : Nat) => x_3.l.v.k i) (fun (i : Nat) => x_3.l.v.w i) (fun (i : Nat) => x_3.l.v.t i) (fun (i : Nat) => x_3.l.v.o i) fun (i : Nat) => x_3.l.v.l i))).l.n ≤ x_4.snd)
    (V.any (Re × Nat) (fun (r : Re × Nat) => r.fst = rmR (Ly.mk (Int.ofNat 1) (Int.ofNat 1) (Int.ofNat 1) (Int.ofNat 256) (Int.ofNat 1) (IntKind.i64.wrap (Int.ofNat 1 + IntKind.i64.wrap (b.tmod (Int.ofNat 12)))) (lS (cfgIh b x)) (lE (cfgIh b x)) (lB (cfgIh b x)) (lQ (cfgIh b x)) x_2.snd) x_2.fst (Int.ofNat 0) 200 (Mm.mk (fun (e : Nat) => x_3.m.g e) x_3.m.lk x_3.m.lc x_3.m.lo x_3.m.ln x_3.m.ct) (El.mk x_3.l.n (Evs.mk (fun (i : Nat) => x_3.l.v.k i) (fun (i : Nat) => x_3.l.v.w i) (fun (i : Nat) => x_3.l.v.t i) (fun (i : Nat) => x_3.l.v.o i) fun (i : Nat) => x_3.l.v.l i)) ∧ (rmR (Ly.mk (Int.ofNat 1) (Int.ofNat 1) (Int.ofNat 1) (Int.ofNat 256) (Int.ofNat 1) (IntKind.i64.wrap (Int.ofNat 1 + IntKind.i64.wrap (b.tmod (Int.ofNat 12)))) (lS (cfgIh b x)) (lE (cfgIh b x)) (lB (cfgIh b x)) (lQ (cfgIh b x)) x_2.snd) x_2.fst (Int.ofNat 0) 200 (Mm.mk (fun (e : Nat) => x_3.m.g e) x_3.m.lk x_3.m.lc x_3.m.lo x_3.m.ln x_3.m.ct) (El.mk x_3.l.n (Evs.mk (fun (i : Nat) => x_3.l.v.k i) (fun (i : Nat) => x_3.l.v.w i) (fun (i : Nat) => x_3.l.v.t i) (fun (i : Nat) => x_3.l.v.o i) fun (i : Nat) => x_3.l.v.l i))).l.n ≤ r.snd) fun (x_4 : Re × Nat) => nN [(1, .pf (x_3.n = x_3.n) rfl), (1, .pf (x_3.cp = x_3.cp) rfl), (1, .le 1 1)]
    (V.need (x_3.n ≤ x_3.n ∧ x_3.n ≤ x_3.cp)
    (nN [(1, .pf (∀ (i e : Nat), i = 0 ∧ e < x_3.n → x_3.a e = x_3.a e) (by intros; rfl))]
    (V.need (x_3.n ≤ 1000 ∧ x_3.n ≤ x_3.cp)
    (V.br (decide ((↑x_3.n : Int) = Int.ofNat 0))
    (nN [(1, .eqI 0 0), (1, .leI2 0 0 0 18446744073709551615)]
    (V.need (∃ (x : Int × Int × Int), x.snd.snd = tkW (Int.ofNat 0))
    (V.any (Int × Int × Int) (fun (p : Int × Int × Int) => p.snd.snd = tkW (Int.ofNat 0)) fun (x_5 : Int × Int × Int) => V.br (!(x_4.fst.c == Int.ofNat 1) == false)
    (V.bad 420)
    (V.br (x_4.fst.c != Int.ofNat 1)
    (V.br (x_4.fst.c != Int.ofNat 2)
    (V.bad 420)
    (nN [(11, .lt2 0 1 0 1), (3, .eqI 1 1), (1, .eqI 256 256), (1, .eqI 1 1), (1, .pf (IntKind.i64.wrap (Int.ofNat 1 + IntKind.i64.wrap (b.tmod (Int.ofNat 12))) = IntKind.i64.wrap (Int.ofNat 1 + IntKind.i64.wrap (b.tmod (Int.ofNat 12)))) rfl), (1, .eqI 1 1), (1, .eqI 0 0), (1, .eqI 1 1), (1, .eq 1 1), (1, .pf (x.fst = x.fst) rfl), (1, .eq 0 0), (1, .pf (x.snd.fst = x.snd.fst) rfl), (1, .le 1 1), (1, .pf (∀ (i : Nat), i < 1 → 1 ≤ 1) (by intros; exact Nat.le_refl _)), (1, .pf (∀ (i e : Nat), i < 1 ∧ e < 1 → e = e) (by intros; rfl)), (1, .pf (∀ (i e : Nat), i < 1 ∧ e < 1 → 0 = 0) (by intros; rfl)), (1, .pf (∀ (i e : Nat), i < 1 ∧ e < 1 → x.snd.snd e = x.snd.snd e) (by intros; rfl)), (1, .le 1 1), (1, .pf (∀ (i : Nat), i < 1 → 0 ≤ 0) (by intros; exact Nat.le_refl _)), (1, .pf (∀ (i e : Nat), i < 1 ∧ e < 0 → uP (fun (x : Nat) => Int.ofNat 0) 0 e = uP (fun (x : Nat) => Int.ofNat 0) 0 e) (by intros; rfl)), (1, .pf (∀ (i e : Nat), i < 1 ∧ e < 0 → uL (fun (x : Nat) => Int.ofNat 0) 0 e = uL (fun (x : Nat) => Int.ofNat 0) 0 e) (by intros; rfl)), (1, .pf (∀ (i e : Nat), i < 1 ∧ e < 0 → uD (fun (x : Nat) => Int.ofNat 0) 0 e = uD (fun (x : Nat) => Int.ofNat 0) 0 e) (by intros; rfl))]
    (V.need (∀ (i : Nat), i < 1 → 0 ≤ gd 1 (fun (x : Nat) => 0) i ∧ 0 ≤ gd 1 (fun (e : Nat) => x.snd.snd e) i)
    (nN [(1, .pf (∀ (i e : Nat), i < 1 ∧ e < 0 → cO (fun (x : Nat) => Int.ofNat 0) 0 i e = cO (fun (x : Nat) => Int.ofNat 0) 0 i e) (by intros; rfl)), (1, .pf (∀ (i e : Nat), i < 1 ∧ e < 0 → cA (fun (x : Nat) => Int.ofNat 0) 0 i e = cA (fun (x : Nat) => Int.ofNat 0) 0 i e) (by intros; rfl)), (1, .pf (∀ (i e : Nat), i < 1 ∧ e < 0 → cB (fun (x : Nat) => Int.ofNat 0) 0 i e = cB (fun (x : Nat) => Int.ofNat 0) 0 i e) (by intros; rfl)), (2, .pf (x_2.fst = x_2.fst) rfl), (1, .pf (x_4.fst.m.lk = x_4.fst.m.lk) rfl), (1, .pf (x_4.fst.m.lc = x_4.fst.m.lc) rfl), (1, .pf (x_4.fst.m.lo = x_4.fst.m.lo) rfl), (1, .pf (x_4.fst.m.ln = x_4.fst.m.ln) rfl), (1, .pf (x_4.fst.m.ct = x_4.fst.m.ct) rfl), (1, .pf (x_2.fst = x_2.fst) rfl), (1, .pf (x_2.fst ≤ x_2.fst) (Nat.le_refl _)), (1, .pf (∀ (e : Nat), e < x_2.fst → x_4.fst.m.g e = x_4.fst.m.g e) (by intros; rfl))]
    (V.need (preSl (cfgIh b x) x_2.fst (Mm.mk (fun (e : Nat) => x_4.fst.m.g e) x_4.fst.m.lk x_4.fst.m.lc x_4.fst.m.lo x_4.fst.m.ln x_4.fst.m.ct))
    (V.need (∃ (x : Nat), cntS (IntKind.i64.wrap (Int.ofNat 1 + IntKind.i64.wrap (b.tmod (Int.ofNat 12)))) (x_4.fst.m.g 2) ≤ x)
    (V.any Nat (fun (cp : Nat) => cntS (IntKind.i64.wrap (Int.ofNat 1 + IntKind.i64.wrap (b.tmod (Int.ofNat 12)))) (x_4.fst.m.g 2) ≤ cp) fun (x_6 : Nat) => nN [(1, .pf (cntS (IntKind.i64.wrap (Int.ofNat 1 + IntKind.i64.wrap (b.tmod (Int.ofNat 12)))) (x_4.fst.m.g 2) = cntS (IntKind.i64.wrap (Int.ofNat 1 + IntKind.i64.wrap (b.tmod (Int.ofNat 12)))) (x_4.fst.m.g 2)) rfl), (1, .pf (x_6 = x_6) rfl), (2, .eq 0 0), (1, .le 1 1)]
    (V.need (cntS (IntKind.i64.wrap (Int.ofNat 1 + IntKind.i64.wrap (b.tmod (Int.ofNat 12)))) (x_4.fst.m.g 2) ≤ cntS (IntKind.i64.wrap (Int.ofNat 1 + IntKind.i64.wrap (b.tmod (Int.ofNat 12)))) (x_4.fst.m.g 2) ∧ cntS (IntKind.i64.wrap (Int.ofNat 1 + IntKind.i64.wrap (b.tmod (Int.ofNat 12)))) (x_4.fst.m.g 2) ≤ x_6)
    (nN [(1, .pf (∀ (i e : Nat), i = 0 ∧ e < cntS (IntKind.i64.wrap (Int.ofNat 1 + IntKind.i64.wrap (b.tmod (Int.ofNat 12)))) (x_4.fst.m.g 2) → x_4.fst.m.g (4 + e) = x_4.fst.m.g (4 + e)) (by intros; rfl)), (1, .le 1 1), (1, .le2 0 0 0 0), (1, .pf (∀ (i e : Nat), i = 0 ∧ e < 0 → Int.ofNat 0 = Int.ofNat 0) (by intros; rfl))]
    (V.need (cntS (IntKind.i64.wrap (Int.ofNat 1 + IntKind.i64.wrap (b.tmod (Int.ofNat 12)))) (x_4.fst.m.g 2) ≤ 100000)
    (V.need (∃ (x : Bool), x = true ↔ cntS (IntKind.i64.wrap (Int.ofNat 1 + IntKind.i64.wrap (b.tmod (Int.ofNat 12)))) (x_4.fst.m.g 2) = 0 ∧ ∀ (j : Nat), j < cntS (IntKind.i64.wrap (Int.ofNat 1 + IntKind.i64.wrap (b.tmod (Int.ofNat 12)))) (x_4.fst.m.g 2) → x_4.fst.m.g (4 + j) = Int.ofNat 0)
    (V.any Bool (fun (b_1 : Bool) => b_1 = true ↔ cntS (IntKind.i64.wrap (Int.ofNat 1 + IntKind.i64.wrap (b.tmod (Int.ofNat 12)))) (x_4.fst.m.g 2) = 0 ∧ ∀ (j : Nat), j < cntS (IntKind.i64.wrap (Int.ofNat 1 + IntKind.i64.wrap (b.tmod (Int.ofNat 12)))) (x_4.fst.m.g 2) → x_4.fst.m.g (4 + j) = Int.ofNat 0) fun (x_7 : Bool) => V.br (!x_7)
    (V.bad 420)
    (V.need ((IntKind.i64.wrap ((↑x_3.i : Int) + Int.ofNat 1)).toNat ≤ len ∧ (↑x_3.q : Int).toNat ≤ (IntKind.i64.wrap ((↑x_3.i : Int) + Int.ofNat 1)).toNat ∧ (↑0 : Int) ≤ hIh b ∧ 0 ≤ 0 ∧ x_4.fst.m.g 2 = (↑0 : Int) ∧ x_4.fst.m.g 3 = (↑(↑x_3.q : Int).toNat : Int) ∧ (∀ (j : Nat), j < 0 → Int.ofNat 0 = x_4.fst.m.g (4 + j)) ∧ (∀ (j : Nat), j < 0 → Int.ofNat 0 ≤ Int.ofNat 0 ∧ Int.ofNat 0 ≤ Int.ofNat 18446744073709551615) ∧ x_4.fst.l.n ≤ (IntKind.i64.wrap ((↑x_3.i : Int) + Int.ofNat 1)).toNat ∧ x_4.fst.l.n ≤ x_4.snd)
    (V.need (len - (IntKind.i64.wrap ((↑x_3.i : Int) + Int.ofNat 1)).toNat < len - x_3.i)
    (V.need (IntKind.i64.wrap ((↑x_3.i : Int) + Int.ofNat 1) = (↑(IntKind.i64.wrap ((↑x_3.i : Int) + Int.ofNat 1)).toNat : Int))
    (V.need ((↑x_3.q : Int) = (↑(↑x_3.q : Int).toNat : Int))
    (nN [(2, .eq 0 0), (2, .pf (x_2.fst = x_2.fst) rfl), (1, .pf (x_4.fst.m.lk = x_4.fst.m.lk) rfl), (1, .pf (x_4.fst.m.lc = x_4.fst.m.lc) rfl), (1, .pf (x_4.fst.m.lo = x_4.fst.m.lo) rfl), (1, .pf (x_4.fst.m.ln = x_4.fst.m.ln) rfl), (1, .pf (x_4.fst.m.ct = x_4.fst.m.ct) rfl), (1, .pf (x_2.fst = x_2.fst) rfl), (1, .pf (x_2.fst ≤ x_2.fst) (Nat.le_refl _)), (1, .pf (∀ (e : Nat), e < x_2.fst → x_4.fst.m.g e = x_4.fst.m.g e) (by intros; rfl)), (1, .pf (IntKind.i64.wrap (Int.ofNat 1 + IntKind.i64.wrap (b.tmod (Int.ofNat 12))) = IntKind.i64.wrap (Int.ofNat 1 + IntKind.i64.wrap (b.tmod (Int.ofNat 12)))) rfl), (3, .eqI 1 1), (1, .eqI 256 256), (1, .eqI 1 1), (1, .pf (IntKind.i64.wrap (Int.ofNat 1 + IntKind.i64.wrap (b.tmod (Int.ofNat 12))) = IntKind.i64.wrap (Int.ofNat 1 + IntKind.i64.wrap (b.tmod (Int.ofNat 12)))) rfl), (1, .pf (lS (cfgIh b x) = lS (cfgIh b x)) rfl), (1, .pf (lE (cfgIh b x) = lE (cfgIh b x)) rfl), (1, .pf (lB (cfgIh b x) = lB (cfgIh b x)) rfl), (1, .pf (lQ (cfgIh b x) = lQ (cfgIh b x)) rfl), (1, .pf (x_2.snd = x_2.snd) rfl), (1, .pf (x_4.fst.l.n = x_4.fst.l.n) rfl), (2, .pf (x_4.snd = x_4.snd) rfl), (1, .pf (x_4.fst.l.n ≤ x_4.fst.l.n) (Nat.le_refl _)), (1, .pf (∀ (e : Nat), e < x_4.fst.l.n → x_4.fst.l.v.k e = x_4.fst.l.v.k e) (by intros; rfl)), (1, .pf (∀ (e : Nat), e < x_4.fst.l.n → x_4.fst.l.v.w e = x_4.fst.l.v.w e) (by intros; rfl)), (1, .pf (∀ (e : Nat), e < x_4.fst.l.n → x_4.fst.l.v.t e = x_4.fst.l.v.t e) (by intros; rfl)), (1, .pf (∀ (e : Nat), e < x_4.fst.l.n → x_4.fst.l.v.o e = x_4.fst.l.v.o e) (by intros; rfl)), (1, .pf (∀ (e : Nat), e < x_4.fst.l.n → x_4.fst.l.v.l e = x_4.fst.l.v.l e) (by intros; rfl)), (1, .eq 0 0), (1, .le 0 0), (1, .pf (∀ (e : Nat), e < 0 → Int.ofNat 0 = Int.ofNat 0) (by intros; rfl))] V.ok)))))))))))))))))
    (nN [(11, .lt2 0 1 0 1), (3, .eqI 1 1), (1, .eqI 256 256), (1, .eqI 1 1), (1, .pf (IntKind.i64.wrap (Int.ofNat 1 + IntKind.i64.wrap (b.tmod (Int.ofNat 12))) = IntKind.i64.wrap (Int.ofNat 1 + IntKind.i64.wrap (b.tmod (Int.ofNat 12)))) rfl), (1, .eqI 1 1), (1, .eqI 0 0), (1, .eqI 1 1), (1, .eq 1 1), (1, .pf (x.fst = x.fst) rfl), (1, .eq 0 0), (1, .pf (x.snd.fst = x.snd.fst) rfl), (1, .le 1 1), (1, .pf (∀ (i : Nat), i < 1 → 1 ≤ 1) (by intros; exact Nat.le_refl _)), (1, .pf (∀ (i e : Nat), i < 1 ∧ e < 1 → e = e) (by intros; rfl)), (1, .pf (∀ (i e : Nat), i < 1 ∧ e < 1 → 0 = 0) (by intros; rfl)), (1, .pf (∀ (i e : Nat), i < 1 ∧ e < 1 → x.snd.snd e = x.snd.snd e) (by intros; rfl)), (1, .le 1 1), (1, .pf (∀ (i : Nat), i < 1 → 0 ≤ 0) (by intros; exact Nat.le_refl _)), (1, .pf (∀ (i e : Nat), i < 1 ∧ e < 0 → uP (fun (x : Nat) => Int.ofNat 0) 0 e = uP (fun (x : Nat) => Int.ofNat 0) 0 e) (by intros; rfl)), (1, .pf (∀ (i e : Nat), i < 1 ∧ e < 0 → uL (fun (x : Nat) => Int.ofNat 0) 0 e = uL (fun (x : Nat) => Int.ofNat 0) 0 e) (by intros; rfl)), (1, .pf (∀ (i e : Nat), i < 1 ∧ e < 0 → uD (fun (x : Nat) => Int.ofNat 0) 0 e = uD (fun (x : Nat) => Int.ofNat 0) 0 e) (by intros; rfl))]
    (V.need (∀ (i : Nat), i < 1 → 0 ≤ gd 1 (fun (x : Nat) => 0) i ∧ 0 ≤ gd 1 (fun (e : Nat) => x.snd.snd e) i)
    (nN [(1, .pf (∀ (i e : Nat), i < 1 ∧ e < 0 → cO (fun (x : Nat) => Int.ofNat 0) 0 i e = cO (fun (x : Nat) => Int.ofNat 0) 0 i e) (by intros; rfl)), (1, .pf (∀ (i e : Nat), i < 1 ∧ e < 0 → cA (fun (x : Nat) => Int.ofNat 0) 0 i e = cA (fun (x : Nat) => Int.ofNat 0) 0 i e) (by intros; rfl)), (1, .pf (∀ (i e : Nat), i < 1 ∧ e < 0 → cB (fun (x : Nat) => Int.ofNat 0) 0 i e = cB (fun (x : Nat) => Int.ofNat 0) 0 i e) (by intros; rfl)), (2, .pf (x_2.fst = x_2.fst) rfl), (1, .pf (x_4.fst.m.lk = x_4.fst.m.lk) rfl), (1, .pf (x_4.fst.m.lc = x_4.fst.m.lc) rfl), (1, .pf (x_4.fst.m.lo = x_4.fst.m.lo) rfl), (1, .pf (x_4.fst.m.ln = x_4.fst.m.ln) rfl), (1, .pf (x_4.fst.m.ct = x_4.fst.m.ct) rfl), (1, .pf (x_2.fst = x_2.fst) rfl), (1, .pf (x_2.fst ≤ x_2.fst) (Nat.le_refl _)), (1, .pf (∀ (e : Nat), e < x_2.fst → x_4.fst.m.g e = x_4.fst.m.g e) (by intros; rfl))]
    (V.need (preSl (cfgIh b x) x_2.fst (Mm.mk (fun (e : Nat) => x_4.fst.m.g e) x_4.fst.m.lk x_4.fst.m.lc x_4.fst.m.lo x_4.fst.m.ln x_4.fst.m.ct))
    (V.need (∃ (x : Nat), cntS (IntKind.i64.wrap (Int.ofNat 1 + IntKind.i64.wrap (b.tmod (Int.ofNat 12)))) (x_4.fst.m.g 2) ≤ x)
    (V.any Nat (fun (cp : Nat) => cntS (IntKind.i64.wrap (Int.ofNat 1 + IntKind.i64.wrap (b.tmod (Int.ofNat 12)))) (x_4.fst.m.g 2) ≤ cp) fun (x_6 : Nat) => nN [(1, .pf (cntS (IntKind.i64.wrap (Int.ofNat 1 + IntKind.i64.wrap (b.tmod (Int.ofNat 12)))) (x_4.fst.m.g 2) = cntS (IntKind.i64.wrap (Int.ofNat 1 + IntKind.i64.wrap (b.tmod (Int.ofNat 12)))) (x_4.fst.m.g 2)) rfl), (1, .pf (x_6 = x_6) rfl), (2, .eq 0 0), (1, .le 1 1)]
    (V.need (cntS (IntKind.i64.wrap (Int.ofNat 1 + IntKind.i64.wrap (b.tmod (Int.ofNat 12)))) (x_4.fst.m.g 2) ≤ cntS (IntKind.i64.wrap (Int.ofNat 1 + IntKind.i64.wrap (b.tmod (Int.ofNat 12)))) (x_4.fst.m.g 2) ∧ cntS (IntKind.i64.wrap (Int.ofNat 1 + IntKind.i64.wrap (b.tmod (Int.ofNat 12)))) (x_4.fst.m.g 2) ≤ x_6)
    (nN [(1, .pf (∀ (i e : Nat), i = 0 ∧ e < cntS (IntKind.i64.wrap (Int.ofNat 1 + IntKind.i64.wrap (b.tmod (Int.ofNat 12)))) (x_4.fst.m.g 2) → x_4.fst.m.g (4 + e) = x_4.fst.m.g (4 + e)) (by intros; rfl)), (1, .le 1 1), (1, .le2 0 0 0 0), (1, .pf (∀ (i e : Nat), i = 0 ∧ e < 0 → Int.ofNat 0 = Int.ofNat 0) (by intros; rfl))]
    (V.need (cntS (IntKind.i64.wrap (Int.ofNat 1 + IntKind.i64.wrap (b.tmod (Int.ofNat 12)))) (x_4.fst.m.g 2) ≤ 100000)
    (V.need (∃ (x : Bool), x = true ↔ cntS (IntKind.i64.wrap (Int.ofNat 1 + IntKind.i64.wrap (b.tmod (Int.ofNat 12)))) (x_4.fst.m.g 2) = 0 ∧ ∀ (j : Nat), j < cntS (IntKind.i64.wrap (Int.ofNat 1 + IntKind.i64.wrap (b.tmod (Int.ofNat 12)))) (x_4.fst.m.g 2) → x_4.fst.m.g (4 + j) = Int.ofNat 0)
    (V.any Bool (fun (b_1 : Bool) => b_1 = true ↔ cntS (IntKind.i64.wrap (Int.ofNat 1 + IntKind.i64.wrap (b.tmod (Int.ofNat 12)))) (x_4.fst.m.g 2) = 0 ∧ ∀ (j : Nat), j < cntS (IntKind.i64.wrap (Int.ofNat 1 + IntKind.i64.wrap (b.tmod (Int.ofNat 12)))) (x_4.fst.m.g 2) → x_4.fst.m.g (4 + j) = Int.ofNat 0) fun (x_7 : Bool) => V.br (!x_7)
    (V.bad 420)
    (V.need ((IntKind.i64.wrap ((↑x_3.i : Int) + Int.ofNat 1)).toNat ≤ len ∧ (↑x_3.q : Int).toNat ≤ (IntKind.i64.wrap ((↑x_3.i : Int) + Int.ofNat 1)).toNat ∧ (↑0 : Int) ≤ hIh b ∧ 0 ≤ 0 ∧ x_4.fst.m.g 2 = (↑0 : Int) ∧ x_4.fst.m.g 3 = (↑(↑x_3.q : Int).toNat : Int) ∧ (∀ (j : Nat), j < 0 → Int.ofNat 0 = x_4.fst.m.g (4 + j)) ∧ (∀ (j : Nat), j < 0 → Int.ofNat 0 ≤ Int.ofNat 0 ∧ Int.ofNat 0 ≤ Int.ofNat 18446744073709551615) ∧ x_4.fst.l.n ≤ (IntKind.i64.wrap ((↑x_3.i : Int) + Int.ofNat 1)).toNat ∧ x_4.fst.l.n ≤ x_4.snd)
    (V.need (len - (IntKind.i64.wrap ((↑x_3.i : Int) + Int.ofNat 1)).toNat < len - x_3.i)
    (V.need (IntKind.i64.wrap ((↑x_3.i : Int) + Int.ofNat 1) = (↑(IntKind.i64.wrap ((↑x_3.i : Int) + Int.ofNat 1)).toNat : Int))
    (V.need ((↑x_3.q : Int) = (↑(↑x_3.q : Int).toNat : Int))
    (nN [(2, .eq 0 0), (2, .pf (x_2.fst = x_2.fst) rfl), (1, .pf (x_4.fst.m.lk = x_4.fst.m.lk) rfl), (1, .pf (x_4.fst.m.lc = x_4.fst.m.lc) rfl), (1, .pf (x_4.fst.m.lo = x_4.fst.m.lo) rfl), (1, .pf (x_4.fst.m.ln = x_4.fst.m.ln) rfl), (1, .pf (x_4.fst.m.ct = x_4.fst.m.ct) rfl), (1, .pf (x_2.fst = x_2.fst) rfl), (1, .pf (x_2.fst ≤ x_2.fst) (Nat.le_refl _)), (1, .pf (∀ (e : Nat), e < x_2.fst → x_4.fst.m.g e = x_4.fst.m.g e) (by intros; rfl)), (1, .pf (IntKind.i64.wrap (Int.ofNat 1 + IntKind.i64.wrap (b.tmod (Int.ofNat 12))) = IntKind.i64.wrap (Int.ofNat 1 + IntKind.i64.wrap (b.tmod (Int.ofNat 12)))) rfl), (3, .eqI 1 1), (1, .eqI 256 256), (1, .eqI 1 1), (1, .pf (IntKind.i64.wrap (Int.ofNat 1 + IntKind.i64.wrap (b.tmod (Int.ofNat 12))) = IntKind.i64.wrap (Int.ofNat 1 + IntKind.i64.wrap (b.tmod (Int.ofNat 12)))) rfl), (1, .pf (lS (cfgIh b x) = lS (cfgIh b x)) rfl), (1, .pf (lE (cfgIh b x) = lE (cfgIh b x)) rfl), (1, .pf (lB (cfgIh b x) = lB (cfgIh b x)) rfl), (1, .pf (lQ (cfgIh b x) = lQ (cfgIh b x)) rfl), (1, .pf (x_2.snd = x_2.snd) rfl), (1, .pf (x_4.fst.l.n = x_4.fst.l.n) rfl), (2, .pf (x_4.snd = x_4.snd) rfl), (1, .pf (x_4.fst.l.n ≤ x_4.fst.l.n) (Nat.le_refl _)), (1, .pf (∀ (e : Nat), e < x_4.fst.l.n → x_4.fst.l.v.k e = x_4.fst.l.v.k e) (by intros; rfl)), (1, .pf (∀ (e : Nat), e < x_4.fst.l.n → x_4.fst.l.v.w e = x_4.fst.l.v.w e) (by intros; rfl)), (1, .pf (∀ (e : Nat), e < x_4.fst.l.n → x_4.fst.l.v.t e = x_4.fst.l.v.t e) (by intros; rfl)), (1, .pf (∀ (e : Nat), e < x_4.fst.l.n → x_4.fst.l.v.o e = x_4.fst.l.v.o e) (by intros; rfl)), (1, .pf (∀ (e : Nat), e < x_4.fst.l.n → x_4.fst.l.v.l e = x_4.fst.l.v.l e) (by intros; rfl)), (1, .eq 0 0), (1, .le 0 0), (1, .pf (∀ (e : Nat), e < 0 → Int.ofNat 0 = Int.ofNat 0) (by intros; rfl))] V.ok))))))))))))))))))))
    (V.br (decide ((↑x_3.n : Int) = Int.ofNat 1))
    (nN [(1, .pf (x_3.a 0 = x_3.a 0) rfl)]
    (V.need (Int.ofNat 0 ≤ x_3.a 0 ∧ x_3.a 0 ≤ Int.ofNat 18446744073709551615)
    (V.need (∃ (x : Int × Int × Int), x.snd.snd = tkW (x_3.a 0))
    (V.any (Int × Int × Int) (fun (p : Int × Int × Int) => p.snd.snd = tkW (x_3.a 0)) fun (x_5 : Int × Int × Int) => V.br (!(x_4.fst.c == Int.ofNat 1) == true)
    (V.bad 420)
    (V.br (x_4.fst.v != x_5.snd.snd)
    (V.bad 420)
    (V.br (x_4.fst.c != Int.ofNat 1)
    (V.br (x_4.fst.c != Int.ofNat 2)
    (V.bad 420)
    (nN [(11, .lt2 0 1 0 1), (3, .eqI 1 1), (1, .eqI 256 256), (1, .eqI 1 1), (1, .pf (IntKind.i64.wrap (Int.ofNat 1 + IntKind.i64.wrap (b.tmod (Int.ofNat 12))) = IntKind.i64.wrap (Int.ofNat 1 + IntKind.i64.wrap (b.tmod (Int.ofNat 12)))) rfl), (1, .eqI 1 1), (1, .eqI 0 0), (1, .eqI 1 1), (1, .eq 1 1), (1, .pf (x.fst = x.fst) rfl), (1, .eq 0 0), (1, .pf (x.snd.fst = x.snd.fst) rfl), (1, .le 1 1), (1, .pf (∀ (i : Nat), i < 1 → 1 ≤ 1) (by intros; exact Nat.le_refl _)), (1, .pf (∀ (i e : Nat), i < 1 ∧ e < 1 → e = e) (by intros; rfl)), (1, .pf (∀ (i e : Nat), i < 1 ∧ e < 1 → 0 = 0) (by intros; rfl)), (1, .pf (∀ (i e : Nat), i < 1 ∧ e < 1 → x.snd.snd e = x.snd.snd e) (by intros; rfl)), (1, .le 1 1), (1, .pf (∀ (i : Nat), i < 1 → 0 ≤ 0) (by intros; exact Nat.le_refl _)), (1, .pf (∀ (i e : Nat), i < 1 ∧ e < 0 → uP (fun (x : Nat) => Int.ofNat 0) 0 e = uP (fun (x : Nat) => Int.ofNat 0) 0 e) (by intros; rfl)), (1, .pf (∀ (i e : Nat), i < 1 ∧ e < 0 → uL (fun (x : Nat) => Int.ofNat 0) 0 e = uL (fun (x : Nat) => Int.ofNat 0) 0 e) (by intros; rfl)), (1, .pf (∀ (i e : Nat), i < 1 ∧ e < 0 → uD (fun (x : Nat) => Int.ofNat 0) 0 e = uD (fun (x : Nat) => Int.ofNat 0) 0 e) (by intros; rfl))]
    (V.need (∀ (i : Nat), i < 1 → 0 ≤ gd 1 (fun (x : Nat) => 0) i ∧ 0 ≤ gd 1 (fun (e : Nat) => x.snd.snd e) i)
    (nN [(1, .pf (∀ (i e : Nat), i < 1 ∧ e < 0 → cO (fun (x : Nat) => Int.ofNat 0) 0 i e = cO (fun (x : Nat) => Int.ofNat 0) 0 i e) (by intros; rfl)), (1, .pf (∀ (i e : Nat), i < 1 ∧ e < 0 → cA (fun (x : Nat) => Int.ofNat 0) 0 i e = cA (fun (x : Nat) => Int.ofNat 0) 0 i e) (by intros; rfl)), (1, .pf (∀ (i e : Nat), i < 1 ∧ e < 0 → cB (fun (x : Nat) => Int.ofNat 0) 0 i e = cB (fun (x : Nat) => Int.ofNat 0) 0 i e) (by intros; rfl)), (2, .pf (x_2.fst = x_2.fst) rfl), (1, .pf (x_4.fst.m.lk = x_4.fst.m.lk) rfl), (1, .pf (x_4.fst.m.lc = x_4.fst.m.lc) rfl), (1, .pf (x_4.fst.m.lo = x_4.fst.m.lo) rfl), (1, .pf (x_4.fst.m.ln = x_4.fst.m.ln) rfl), (1, .pf (x_4.fst.m.ct = x_4.fst.m.ct) rfl), (1, .pf (x_2.fst = x_2.fst) rfl), (1, .pf (x_2.fst ≤ x_2.fst) (Nat.le_refl _)), (1, .pf (∀ (e : Nat), e < x_2.fst → x_4.fst.m.g e = x_4.fst.m.g e) (by intros; rfl))]
    (V.need (preSl (cfgIh b x) x_2.fst (Mm.mk (fun (e : Nat) => x_4.fst.m.g e) x_4.fst.m.lk x_4.fst.m.lc x_4.fst.m.lo x_4.fst.m.ln x_4.fst.m.ct))
    (V.need (∃ (x : Nat), cntS (IntKind.i64.wrap (Int.ofNat 1 + IntKind.i64.wrap (b.tmod (Int.ofNat 12)))) (x_4.fst.m.g 2) ≤ x)
    (V.any Nat (fun (cp : Nat) => cntS (IntKind.i64.wrap (Int.ofNat 1 + IntKind.i64.wrap (b.tmod (Int.ofNat 12)))) (x_4.fst.m.g 2) ≤ cp) fun (x_6 : Nat) => nN [(1, .pf (cntS (IntKind.i64.wrap (Int.ofNat 1 + IntKind.i64.wrap (b.tmod (Int.ofNat 12)))) (x_4.fst.m.g 2) = cntS (IntKind.i64.wrap (Int.ofNat 1 + IntKind.i64.wrap (b.tmod (Int.ofNat 12)))) (x_4.fst.m.g 2)) rfl), (1, .pf (x_6 = x_6) rfl), (2, .eq 0 0), (1, .le 1 1)]
    (V.need (cntS (IntKind.i64.wrap (Int.ofNat 1 + IntKind.i64.wrap (b.tmod (Int.ofNat 12)))) (x_4.fst.m.g 2) ≤ cntS (IntKind.i64.wrap (Int.ofNat 1 + IntKind.i64.wrap (b.tmod (Int.ofNat 12)))) (x_4.fst.m.g 2) ∧ cntS (IntKind.i64.wrap (Int.ofNat 1 + IntKind.i64.wrap (b.tmod (Int.ofNat 12)))) (x_4.fst.m.g 2) ≤ x_6)
    (nN [(1, .pf (∀ (i e : Nat), i = 0 ∧ e < cntS (IntKind.i64.wrap (Int.ofNat 1 + IntKind.i64.wrap (b.tmod (Int.ofNat 12)))) (x_4.fst.m.g 2) → x_4.fst.m.g (4 + e) = x_4.fst.m.g (4 + e)) (by intros; rfl)), (1, .le 1 1), (1, .le2 0 0 0 0), (1, .pf (∀ (i e : Nat), i = 0 ∧ e < 0 → Int.ofNat 0 = Int.ofNat 0) (by intros; rfl))]
    (V.need (cntS (IntKind.i64.wrap (Int.ofNat 1 + IntKind.i64.wrap (b.tmod (Int.ofNat 12)))) (x_4.fst.m.g 2) ≤ 100000)
    (V.need (∃ (x : Bool), x = true ↔ cntS (IntKind.i64.wrap (Int.ofNat 1 + IntKind.i64.wrap (b.tmod (Int.ofNat 12)))) (x_4.fst.m.g 2) = 0 ∧ ∀ (j : Nat), j < cntS (IntKind.i64.wrap (Int.ofNat 1 + IntKind.i64.wrap (b.tmod (Int.ofNat 12)))) (x_4.fst.m.g 2) → x_4.fst.m.g (4 + j) = Int.ofNat 0)
    (V.any Bool (fun (b_1 : Bool) => b_1 = true ↔ cntS (IntKind.i64.wrap (Int.ofNat 1 + IntKind.i64.wrap (b.tmod (Int.ofNat 12)))) (x_4.fst.m.g 2) = 0 ∧ ∀ (j : Nat), j < cntS (IntKind.i64.wrap (Int.ofNat 1 + IntKind.i64.wrap (b.tmod (Int.ofNat 12)))) (x_4.fst.m.g 2) → x_4.fst.m.g (4 + j) = Int.ofNat 0) fun (x_7 : Bool) => V.br (!x_7)
    (V.bad 420)
    (V.need ((IntKind.i64.wrap ((↑x_3.i : Int) + Int.ofNat 1)).toNat ≤ len ∧ (↑x_3.q : Int).toNat ≤ (IntKind.i64.wrap ((↑x_3.i : Int) + Int.ofNat 1)).toNat ∧ (↑0 : Int) ≤ hIh b ∧ 0 ≤ 0 ∧ x_4.fst.m.g 2 = (↑0 : Int) ∧ x_4.fst.m.g 3 = (↑(↑x_3.q : Int).toNat : Int) ∧ (∀ (j : Nat), j < 0 → Int.ofNat 0 = x_4.fst.m.g (4 + j)) ∧ (∀ (j : Nat), j < 0 → Int.ofNat 0 ≤ Int.ofNat 0 ∧ Int.ofNat 0 ≤ Int.ofNat 18446744073709551615) ∧ x_4.fst.l.n ≤ (IntKind.i64.wrap ((↑x_3.i : Int) + Int.ofNat 1)).toNat ∧ x_4.fst.l.n ≤ x_4.snd)
    (V.need (len - (IntKind.i64.wrap ((↑x_3.i : Int) + Int.ofNat 1)).toNat < len - x_3.i)
    (V.need (IntKind.i64.wrap ((↑x_3.i : Int) + Int.ofNat 1) = (↑(IntKind.i64.wrap ((↑x_3.i : Int) + Int.ofNat 1)).toNat : Int))
    (V.need ((↑x_3.q : Int) = (↑(↑x_3.q : Int).toNat : Int))
    (nN [(2, .eq 0 0), (2, .pf (x_2.fst = x_2.fst) rfl), (1, .pf (x_4.fst.m.lk = x_4.fst.m.lk) rfl), (1, .pf (x_4.fst.m.lc = x_4.fst.m.lc) rfl), (1, .pf (x_4.fst.m.lo = x_4.fst.m.lo) rfl), (1, .pf (x_4.fst.m.ln = x_4.fst.m.ln) rfl), (1, .pf (x_4.fst.m.ct = x_4.fst.m.ct) rfl), (1, .pf (x_2.fst = x_2.fst) rfl), (1, .pf (x_2.fst ≤ x_2.fst) (Nat.le_refl _)), (1, .pf (∀ (e : Nat), e < x_2.fst → x_4.fst.m.g e = x_4.fst.m.g e) (by intros; rfl)), (1, .pf (IntKind.i64.wrap (Int.ofNat 1 + IntKind.i64.wrap (b.tmod (Int.ofNat 12))) = IntKind.i64.wrap (Int.ofNat 1 + IntKind.i64.wrap (b.tmod (Int.ofNat 12)))) rfl), (3, .eqI 1 1), (1, .eqI 256 256), (1, .eqI 1 1), (1, .pf (IntKind.i64.wrap (Int.ofNat 1 + IntKind.i64.wrap (b.tmod (Int.ofNat 12))) = IntKind.i64.wrap (Int.ofNat 1 + IntKind.i64.wrap (b.tmod (Int.ofNat 12)))) rfl), (1, .pf (lS (cfgIh b x) = lS (cfgIh b x)) rfl), (1, .pf (lE (cfgIh b x) = lE (cfgIh b x)) rfl), (1, .pf (lB (cfgIh b x) = lB (cfgIh b x)) rfl), (1, .pf (lQ (cfgIh b x) = lQ (cfgIh b x)) rfl), (1, .pf (x_2.snd = x_2.snd) rfl), (1, .pf (x_4.fst.l.n = x_4.fst.l.n) rfl), (2, .pf (x_4.snd = x_4.snd) rfl), (1, .pf (x_4.fst.l.n ≤ x_4.fst.l.n) (Nat.le_refl _)), (1, .pf (∀ (e : Nat), e < x_4.fst.l.n → x_4.fst.l.v.k e = x_4.fst.l.v.k e) (by intros; rfl)), (1, .pf (∀ (e : Nat), e < x_4.fst.l.n → x_4.fst.l.v.w e = x_4.fst.l.v.w e) (by intros; rfl)), (1, .pf (∀ (e : Nat), e < x_4.fst.l.n → x_4.fst.l.v.t e = x_4.fst.l.v.t e) (by intros; rfl)), (1, .pf (∀ (e : Nat), e < x_4.fst.l.n → x_4.fst.l.v.o e = x_4.fst.l.v.o e) (by intros; rfl)), (1, .pf (∀ (e : Nat), e < x_4.fst.l.n → x_4.fst.l.v.l e = x_4.fst.l.v.l e) (by intros; rfl)), (1, .eq 0 0), (1, .le 0 0), (1, .pf (∀ (e : Nat), e < 0 → Int.ofNat 0 = Int.ofNat 0) (by intros; rfl))] V.ok)))))))))))))))))
    (nN [(11, .lt2 0 1 0 1), (3, .eqI 1 1), (1, .eqI 256 256), (1, .eqI 1 1), (1, .pf (IntKind.i64.wrap (Int.ofNat 1 + IntKind.i64.wrap (b.tmod (Int.ofNat 12))) = IntKind.i64.wrap (Int.ofNat 1 + IntKind.i64.wrap (b.tmod (Int.ofNat 12)))) rfl), (1, .eqI 1 1), (1, .eqI 0 0), (1, .eqI 1 1), (1, .eq 1 1), (1, .pf (x.fst = x.fst) rfl), (1, .eq 0 0), (1, .pf (x.snd.fst = x.snd.fst) rfl), (1, .le 1 1), (1, .pf (∀ (i : Nat), i < 1 → 1 ≤ 1) (by intros; exact Nat.le_refl _)), (1, .pf (∀ (i e : Nat), i < 1 ∧ e < 1 → e = e) (by intros; rfl)), (1, .pf (∀ (i e : Nat), i < 1 ∧ e < 1 → 0 = 0) (by intros; rfl)), (1, .pf (∀ (i e : Nat), i < 1 ∧ e < 1 → x.snd.snd e = x.snd.snd e) (by intros; rfl)), (1, .le 1 1), (1, .pf (∀ (i : Nat), i < 1 → 0 ≤ 0) (by intros; exact Nat.le_refl _)), (1, .pf (∀ (i e : Nat), i < 1 ∧ e < 0 → uP (fun (x : Nat) => Int.ofNat 0) 0 e = uP (fun (x : Nat) => Int.ofNat 0) 0 e) (by intros; rfl)), (1, .pf (∀ (i e : Nat), i < 1 ∧ e < 0 → uL (fun (x : Nat) => Int.ofNat 0) 0 e = uL (fun (x : Nat) => Int.ofNat 0) 0 e) (by intros; rfl)), (1, .pf (∀ (i e : Nat), i < 1 ∧ e < 0 → uD (fun (x : Nat) => Int.ofNat 0) 0 e = uD (fun (x : Nat) => Int.ofNat 0) 0 e) (by intros; rfl))]
    (V.need (∀ (i : Nat), i < 1 → 0 ≤ gd 1 (fun (x : Nat) => 0) i ∧ 0 ≤ gd 1 (fun (e : Nat) => x.snd.snd e) i)
    (nN [(1, .pf (∀ (i e : Nat), i < 1 ∧ e < 0 → cO (fun (x : Nat) => Int.ofNat 0) 0 i e = cO (fun (x : Nat) => Int.ofNat 0) 0 i e) (by intros; rfl)), (1, .pf (∀ (i e : Nat), i < 1 ∧ e < 0 → cA (fun (x : Nat) => Int.ofNat 0) 0 i e = cA (fun (x : Nat) => Int.ofNat 0) 0 i e) (by intros; rfl)), (1, .pf (∀ (i e : Nat), i < 1 ∧ e < 0 → cB (fun (x : Nat) => Int.ofNat 0) 0 i e = cB (fun (x : Nat) => Int.ofNat 0) 0 i e) (by intros; rfl)), (2, .pf (x_2.fst = x_2.fst) rfl), (1, .pf (x_4.fst.m.lk = x_4.fst.m.lk) rfl), (1, .pf (x_4.fst.m.lc = x_4.fst.m.lc) rfl), (1, .pf (x_4.fst.m.lo = x_4.fst.m.lo) rfl), (1, .pf (x_4.fst.m.ln = x_4.fst.m.ln) rfl), (1, .pf (x_4.fst.m.ct = x_4.fst.m.ct) rfl), (1, .pf (x_2.fst = x_2.fst) rfl), (1, .pf (x_2.fst ≤ x_2.fst) (Nat.le_refl _)), (1, .pf (∀ (e : Nat), e < x_2.fst → x_4.fst.m.g e = x_4.fst.m.g e) (by intros; rfl))]
    (V.need (preSl (cfgIh b x) x_2.fst (Mm.mk (fun (e : Nat) => x_4.fst.m.g e) x_4.fst.m.lk x_4.fst.m.lc x_4.fst.m.lo x_4.fst.m.ln x_4.fst.m.ct))
    (V.need (∃ (x : Nat), cntS (IntKind.i64.wrap (Int.ofNat 1 + IntKind.i64.wrap (b.tmod (Int.ofNat 12)))) (x_4.fst.m.g 2) ≤ x)
    (V.any Nat (fun (cp : Nat) => cntS (IntKind.i64.wrap (Int.ofNat 1 + IntKind.i64.wrap (b.tmod (Int.ofNat 12)))) (x_4.fst.m.g 2) ≤ cp) fun (x_6 : Nat) => nN [(1, .pf (cntS (IntKind.i64.wrap (Int.ofNat 1 + IntKind.i64.wrap (b.tmod (Int.ofNat 12)))) (x_4.fst.m.g 2) = cntS (IntKind.i64.wrap (Int.ofNat 1 + IntKind.i64.wrap (b.tmod (Int.ofNat 12)))) (x_4.fst.m.g 2)) rfl), (1, .pf (x_6 = x_6) rfl), (2, .eq 0 0), (1, .le 1 1)]
    (V.need (cntS (IntKind.i64.wrap (Int.ofNat 1 + IntKind.i64.wrap (b.tmod (Int.ofNat 12)))) (x_4.fst.m.g 2) ≤ cntS (IntKind.i64.wrap (Int.ofNat 1 + IntKind.i64.wrap (b.tmod (Int.ofNat 12)))) (x_4.fst.m.g 2) ∧ cntS (IntKind.i64.wrap (Int.ofNat 1 + IntKind.i64.wrap (b.tmod (Int.ofNat 12)))) (x_4.fst.m.g 2) ≤ x_6)
    (nN [(1, .pf (∀ (i e : Nat), i = 0 ∧ e < cntS (IntKind.i64.wrap (Int.ofNat 1 + IntKind.i64.wrap (b.tmod (Int.ofNat 12)))) (x_4.fst.m.g 2) → x_4.fst.m.g (4 + e) = x_4.fst.m.g (4 + e)) (by intros; rfl)), (1, .le 1 1), (1, .le2 0 0 0 0), (1, .pf (∀ (i e : Nat), i = 0 ∧ e < 0 → Int.ofNat 0 = Int.ofNat 0) (by intros; rfl))]
    (V.need (cntS (IntKind.i64.wrap (Int.ofNat 1 + IntKind.i64.wrap (b.tmod (Int.ofNat 12)))) (x_4.fst.m.g 2) ≤ 100000)
    (V.need (∃ (x : Bool), x = true ↔ cntS (IntKind.i64.wrap (Int.ofNat 1 + IntKind.i64.wrap (b.tmod (Int.ofNat 12)))) (x_4.fst.m.g 2) = 0 ∧ ∀ (j : Nat), j < cntS (IntKind.i64.wrap (Int.ofNat 1 + IntKind.i64.wrap (b.tmod (Int.ofNat 12)))) (x_4.fst.m.g 2) → x_4.fst.m.g (4 + j) = Int.ofNat 0)
    (V.any Bool (fun (b_1 : Bool) => b_1 = true ↔ cntS (IntKind.i64.wrap (Int.ofNat 1 + IntKind.i64.wrap (b.tmod (Int.ofNat 12)))) (x_4.fst.m.g 2) = 0 ∧ ∀ (j : Nat), j < cntS (IntKind.i64.wrap (Int.ofNat 1 + IntKind.i64.wrap (b.tmod (Int.ofNat 12)))) (x_4.fst.m.g 2) → x_4.fst.m.g (4 + j) = Int.ofNat 0) fun (x_7 : Bool) => V.br (!x_7)
    (V.bad 420)
    (V.need ((IntKind.i64.wrap ((↑x_3.i : Int) + Int.ofNat 1)).toNat ≤ len ∧ (↑x_3.q : Int).toNat ≤ (IntKind.i64.wrap ((↑x_3.i : Int) + Int.ofNat 1)).toNat ∧ (↑0 : Int) ≤ hIh b ∧ 0 ≤ 0 ∧ x_4.fst.m.g 2 = (↑0 : Int) ∧ x_4.fst.m.g 3 = (↑(↑x_3.q : Int).toNat : Int) ∧ (∀ (j : Nat), j < 0 → Int.ofNat 0 = x_4.fst.m.g (4 + j)) ∧ (∀ (j : Nat), j < 0 → Int.ofNat 0 ≤ Int.ofNat 0 ∧ Int.ofNat 0 ≤ Int.ofNat 18446744073709551615) ∧ x_4.fst.l.n ≤ (IntKind.i64.wrap ((↑x_3.i : Int) + Int.ofNat 1)).toNat ∧ x_4.fst.l.n ≤ x_4.snd)
    (V.need (len - (IntKind.i64.wrap ((↑x_3.i : Int) + Int.ofNat 1)).toNat < len - x_3.i)
    (V.need (IntKind.i64.wrap ((↑x_3.i : Int) + Int.ofNat 1) = (↑(IntKind.i64.wrap ((↑x_3.i : Int) + Int.ofNat 1)).toNat : Int))
    (V.need ((↑x_3.q : Int) = (↑(↑x_3.q : Int).toNat : Int))
    (nN [(2, .eq 0 0), (2, .pf (x_2.fst = x_2.fst) rfl), (1, .pf (x_4.fst.m.lk = x_4.fst.m.lk) rfl), (1, .pf (x_4.fst.m.lc = x_4.fst.m.lc) rfl), (1, .pf (x_4.fst.m.lo = x_4.fst.m.lo) rfl), (1, .pf (x_4.fst.m.ln = x_4.fst.m.ln) rfl), (1, .pf (x_4.fst.m.ct = x_4.fst.m.ct) rfl), (1, .pf (x_2.fst = x_2.fst) rfl), (1, .pf (x_2.fst ≤ x_2.fst) (Nat.le_refl _)), (1, .pf (∀ (e : Nat), e < x_2.fst → x_4.fst.m.g e = x_4.fst.m.g e) (by intros; rfl)), (1, .pf (IntKind.i64.wrap (Int.ofNat 1 + IntKind.i64.wrap (b.tmod (Int.ofNat 12))) = IntKind.i64.wrap (Int.ofNat 1 + IntKind.i64.wrap (b.tmod (Int.ofNat 12)))) rfl), (3, .eqI 1 1), (1, .eqI 256 256), (1, .eqI 1 1), (1, .pf (IntKind.i64.wrap (Int.ofNat 1 + IntKind.i64.wrap (b.tmod (Int.ofNat 12))) = IntKind.i64.wrap (Int.ofNat 1 + IntKind.i64.wrap (b.tmod (Int.ofNat 12)))) rfl), (1, .pf (lS (cfgIh b x) = lS (cfgIh b x)) rfl), (1, .pf (lE (cfgIh b x) = lE (cfgIh b x)) rfl), (1, .pf (lB (cfgIh b x) = lB (cfgIh b x)) rfl), (1, .pf (lQ (cfgIh b x) = lQ (cfgIh b x)) rfl), (1, .pf (x_2.snd = x_2.snd) rfl), (1, .pf (x_4.fst.l.n = x_4.fst.l.n) rfl), (2, .pf (x_4.snd = x_4.snd) rfl), (1, .pf (x_4.fst.l.n ≤ x_4.fst.l.n) (Nat.le_refl _)), (1, .pf (∀ (e : Nat), e < x_4.fst.l.n → x_4.fst.l.v.k e = x_4.fst.l.v.k e) (by intros; rfl)), (1, .pf (∀ (e : Nat), e < x_4.fst.l.n → x_4.fst.l.v.w e = x_4.fst.l.v.w e) (by intros; rfl)), (1, .pf (∀ (e : Nat), e < x_4.fst.l.n → x_4.fst.l.v.t e = x_4.fst.l.v.t e) (by intros; rfl)), (1, .pf (∀ (e : Nat), e < x_4.fst.l.n → x_4.fst.l.v.o e = x_4.fst.l.v.o e) (by intros; rfl)), (1, .pf (∀ (e : Nat), e < x_4.fst.l.n → x_4.fst.l.v.l e = x_4.fst.l.v.l e) (by intros; rfl)), (1, .eq 0 0), (1, .le 0 0), (1, .pf (∀ (e : Nat), e < 0 → Int.ofNat 0 = Int.ofNat 0) (by intros; rfl))] V.ok))))))))))))))))))))))
    (V.need (∃ (x : Nat), x_3.n - 1 ≤ x)
    (V.any Nat (fun (c : Nat) => x_3.n - 1 ≤ c) fun (x_5 : Nat) => nN [(1, .pf (x_3.a 0 = x_3.a 0) rfl)]
    (V.need (Int.ofNat 0 ≤ x_3.a 0 ∧ x_3.a 0 ≤ Int.ofNat 18446744073709551615)
    (V.need (∃ (x : Int × Int × Int), x.snd.snd = tkW (x_3.a 0))
    (V.any (Int × Int × Int) (fun (p : Int × Int × Int) => p.snd.snd = tkW (x_3.a 0)) fun (x_6 : Int × Int × Int) => V.br (!(x_4.fst.c == Int.ofNat 1) == true)
    (V.bad 420)
    (V.br (x_4.fst.v != x_6.snd.snd)
    (V.bad 420)
    (V.br (x_4.fst.c != Int.ofNat 1)
    (V.br (x_4.fst.c != Int.ofNat 2)
    (V.bad 420)
    (nN [(11, .lt2 0 1 0 1), (3, .eqI 1 1), (1, .eqI 256 256), (1, .eqI 1 1), (1, .pf (IntKind.i64.wrap (Int.ofNat 1 + IntKind.i64.wrap (b.tmod (Int.ofNat 12))) = IntKind.i64.wrap (Int.ofNat 1 + IntKind.i64.wrap (b.tmod (Int.ofNat 12)))) rfl), (1, .eqI 1 1), (1, .eqI 0 0), (1, .eqI 1 1), (1, .eq 1 1), (1, .pf (x.fst = x.fst) rfl), (1, .eq 0 0), (1, .pf (x.snd.fst = x.snd.fst) rfl), (1, .le 1 1), (1, .pf (∀ (i : Nat), i < 1 → 1 ≤ 1) (by intros; exact Nat.le_refl _)), (1, .pf (∀ (i e : Nat), i < 1 ∧ e < 1 → e = e) (by intros; rfl)), (1, .pf (∀ (i e : Nat), i < 1 ∧ e < 1 → 0 = 0) (by intros; rfl)), (1, .pf (∀ (i e : Nat), i < 1 ∧ e < 1 → x.snd.snd e = x.snd.snd e) (by intros; rfl)), (1, .le 1 1), (1, .pf (∀ (i : Nat), i < 1 → 0 ≤ 0) (by intros; exact Nat.le_refl _)), (1, .pf (∀ (i e : Nat), i < 1 ∧ e < 0 → uP (fun (x : Nat) => Int.ofNat 0) 0 e = uP (fun (x : Nat) => Int.ofNat 0) 0 e) (by intros; rfl)), (1, .pf (∀ (i e : Nat), i < 1 ∧ e < 0 → uL (fun (x : Nat) => Int.ofNat 0) 0 e = uL (fun (x : Nat) => Int.ofNat 0) 0 e) (by intros; rfl)), (1, .pf (∀ (i e : Nat), i < 1 ∧ e < 0 → uD (fun (x : Nat) => Int.ofNat 0) 0 e = uD (fun (x : Nat) => Int.ofNat 0) 0 e) (by intros; rfl))]
    (V.need (∀ (i : Nat), i < 1 → 0 ≤ gd 1 (fun (x : Nat) => 0) i ∧ 0 ≤ gd 1 (fun (e : Nat) => x.snd.snd e) i)
    (nN [(1, .pf (∀ (i e : Nat), i < 1 ∧ e < 0 → cO (fun (x : Nat) => Int.ofNat 0) 0 i e = cO (fun (x : Nat) => Int.ofNat 0) 0 i e) (by intros; rfl)), (1, .pf (∀ (i e : Nat), i < 1 ∧ e < 0 → cA (fun (x : Nat) => Int.ofNat 0) 0 i e = cA (fun (x : Nat) => Int.ofNat 0) 0 i e) (by intros; rfl)), (1, .pf (∀ (i e : Nat), i < 1 ∧ e < 0 → cB (fun (x : Nat) => Int.ofNat 0) 0 i e = cB (fun (x : Nat) => Int.ofNat 0) 0 i e) (by intros; rfl)), (2, .pf (x_2.fst = x_2.fst) rfl), (1, .pf (x_4.fst.m.lk = x_4.fst.m.lk) rfl), (1, .pf (x_4.fst.m.lc = x_4.fst.m.lc) rfl), (1, .pf (x_4.fst.m.lo = x_4.fst.m.lo) rfl), (1, .pf (x_4.fst.m.ln = x_4.fst.m.ln) rfl), (1, .pf (x_4.fst.m.ct = x_4.fst.m.ct) rfl), (1, .pf (x_2.fst = x_2.fst) rfl), (1, .pf (x_2.fst ≤ x_2.fst) (Nat.le_refl _)), (1, .pf (∀ (e : Nat), e < x_2.fst → x_4.fst.m.g e = x_4.fst.m.g e) (by intros; rfl))]
    (V.need (preSl (cfgIh b x) x_2.fst (Mm.mk (fun (e : Nat) => x_4.fst.m.g e) x_4.fst.m.lk x_4.fst.m.lc x_4.fst.m.lo x_4.fst.m.ln x_4.fst.m.ct))
    (V.need (∃ (x : Nat), cntS (IntKind.i64.wrap (Int.ofNat 1 + IntKind.i64.wrap (b.tmod (Int.ofNat 12)))) (x_4.fst.m.g 2) ≤ x)
    (V.any Nat (fun (cp : Nat) => cntS (IntKind.i64.wrap (Int.ofNat 1 + IntKind.i64.wrap (b.tmod (Int.ofNat 12)))) (x_4.fst.m.g 2) ≤ cp) fun (x_7 : Nat) => nN [(1, .pf (cntS (IntKind.i64.wrap (Int.ofNat 1 + IntKind.i64.wrap (b.tmod (Int.ofNat 12)))) (x_4.fst.m.g 2) = cntS (IntKind.i64.wrap (Int.ofNat 1 + IntKind.i64.wrap (b.tmod (Int.ofNat 12)))) (x_4.fst.m.g 2)) rfl), (1, .pf (x_7 = x_7) rfl), (1, .pf (x_3.n - 1 = x_3.n - 1) rfl), (1, .pf (x_5 = x_5) rfl), (1, .le 1 1)]
    (V.need (cntS (IntKind.i64.wrap (Int.ofNat 1 + IntKind.i64.wrap (b.tmod (Int.ofNat 12)))) (x_4.fst.m.g 2) ≤ cntS (IntKind.i64.wrap (Int.ofNat 1 + IntKind.i64.wrap (b.tmod (Int.ofNat 12)))) (x_4.fst.m.g 2) ∧ cntS (IntKind.i64.wrap (Int.ofNat 1 + IntKind.i64.wrap (b.tmod (Int.ofNat 12)))) (x_4.fst.m.g 2) ≤ x_7)
    (nN [(1, .pf (∀ (i e : Nat), i = 0 ∧ e < cntS (IntKind.i64.wrap (Int.ofNat 1 + IntKind.i64.wrap (b.tmod (Int.ofNat 12)))) (x_4.fst.m.g 2) → x_4.fst.m.g (4 + e) = x_4.fst.m.g (4 + e)) (by intros; rfl)), (1, .le 1 1)]
    (V.need (x_3.n - 1 ≤ x_3.n - 1 ∧ x_3.n - 1 ≤ x_5)
    (nN [(1, .pf (∀ (i e : Nat), i = 0 ∧ e < x_3.n - 1 → dnM (x_3.n - 1) (x_3.a (x_3.n - 1)) (x_3.n - 1) 0 (fun (e : Nat) => x_3.a e) e = dnM (x_3.n - 1) (x_3.a (x_3.n - 1)) (x_3.n - 1) 0 (fun (e : Nat) => x_3.a e) e) (by intros; rfl))]
    (V.need (cntS (IntKind.i64.wrap (Int.ofNat 1 + IntKind.i64.wrap (b.tmod (Int.ofNat 12)))) (x_4.fst.m.g 2) ≤ 100000)
    (V.need (∃ (x : Bool), x = true ↔ cntS (IntKind.i64.wrap (Int.ofNat 1 + IntKind.i64.wrap (b.tmod (Int.ofNat 12)))) (x_4.fst.m.g 2) = x_3.n - 1 ∧ ∀ (j : Nat), j < cntS (IntKind.i64.wrap (Int.ofNat 1 + IntKind.i64.wrap (b.tmod (Int.ofNat 12)))) (x_4.fst.m.g 2) → x_4.fst.m.g (4 + j) = dnM (x_3.n - 1) (x_3.a (x_3.n - 1)) (x_3.n - 1) 0 (fun (e : Nat) => x_3.a e) j)
    (V.any Bool (fun (b_1 : Bool) => b_1 = true ↔ cntS (IntKind.i64.wrap (Int.ofNat 1 + IntKind.i64.wrap (b.tmod (Int.ofNat 12)))) (x_4.fst.m.g 2) = x_3.n - 1 ∧ ∀ (j : Nat), j < cntS (IntKind.i64.wrap (Int.ofNat 1 + IntKind.i64.wrap (b.tmod (Int.ofNat 12)))) (x_4.fst.m.g 2) → x_4.fst.m.g (4 + j) = dnM (x_3.n - 1) (x_3.a (x_3.n - 1)) (x_3.n - 1) 0 (fun (e : Nat) => x_3.a e) j) fun (x_8 : Bool) => V.br (!x_8)
    (V.bad 420)
    (V.need ((IntKind.i64.wrap ((↑x_3.i : Int) + Int.ofNat 1)).toNat ≤ len ∧ (↑x_3.q : Int).toNat ≤ (IntKind.i64.wrap ((↑x_3.i : Int) + Int.ofNat 1)).toNat ∧ (↑(x_3.n - 1) : Int) ≤ hIh b ∧ x_3.n - 1 ≤ x_5 ∧ x_4.fst.m.g 2 = (↑(x_3.n - 1) : Int) ∧ x_4.fst.m.g 3 = (↑(↑x_3.q : Int).toNat : Int) ∧ (∀ (j : Nat), j < x_3.n - 1 → dnM (x_3.n - 1) (x_3.a (x_3.n - 1)) (x_3.n - 1) 0 (fun (e : Nat) => x_3.a e) j = x_4.fst.m.g (4 + j)) ∧ (∀ (j : Nat), j < x_3.n - 1 → Int.ofNat 0 ≤ dnM (x_3.n - 1) (x_3.a (x_3.n - 1)) (x_3.n - 1) 0 (fun (e : Nat) => x_3.a e) j ∧ dnM (x_3.n - 1) (x_3.a (x_3.n - 1)) (x_3.n - 1) 0 (fun (e : Nat) => x_3.a e) j ≤ Int.ofNat 18446744073709551615) ∧ x_4.fst.l.n ≤ (IntKind.i64.wrap ((↑x_3.i : Int) + Int.ofNat 1)).toNat ∧ x_4.fst.l.n ≤ x_4.snd)
    (V.need (len - (IntKind.i64.wrap ((↑x_3.i : Int) + Int.ofNat 1)).toNat < len - x_3.i)
    (V.need (IntKind.i64.wrap ((↑x_3.i : Int) + Int.ofNat 1) = (↑(IntKind.i64.wrap ((↑x_3.i : Int) + Int.ofNat 1)).toNat : Int))
    (V.need ((↑x_3.q : Int) = (↑(↑x_3.q : Int).toNat : Int))
    (nN [(1, .pf (x_3.n - 1 = x_3.n - 1) rfl), (1, .pf (x_5 = x_5) rfl), (2, .pf (x_2.fst = x_2.fst) rfl), (1, .pf (x_4.fst.m.lk = x_4.fst.m.lk) rfl), (1, .pf (x_4.fst.m.lc = x_4.fst.m.lc) rfl), (1, .pf (x_4.fst.m.lo = x_4.fst.m.lo) rfl), (1, .pf (x_4.fst.m.ln = x_4.fst.m.ln) rfl), (1, .pf (x_4.fst.m.ct = x_4.fst.m.ct) rfl), (1, .pf (x_2.fst = x_2.fst) rfl), (1, .pf (x_2.fst ≤ x_2.fst) (Nat.le_refl _)), (1, .pf (∀ (e : Nat), e < x_2.fst → x_4.fst.m.g e = x_4.fst.m.g e) (by intros; rfl)), (1, .pf (IntKind.i64.wrap (Int.ofNat 1 + IntKind.i64.wrap (b.tmod (Int.ofNat 12))) = IntKind.i64.wrap (Int.ofNat 1 + IntKind.i64.wrap (b.tmod (Int.ofNat 12)))) rfl), (3, .eqI 1 1), (1, .eqI 256 256), (1, .eqI 1 1), (1, .pf (IntKind.i64.wrap (Int.ofNat 1 + IntKind.i64.wrap (b.tmod (Int.ofNat 12))) = IntKind.i64.wrap (Int.ofNat 1 + IntKind.i64.wrap (b.tmod (Int.ofNat 12)))) rfl), (1, .pf (lS (cfgIh b x) = lS (cfgIh b x)) rfl), (1, .pf (lE (cfgIh b x) = lE (cfgIh b x)) rfl), (1, .pf (lB (cfgIh b x) = lB (cfgIh b x)) rfl), (1, .pf (lQ (cfgIh b x) = lQ (cfgIh b x)) rfl), (1, .pf (x_2.snd = x_2.snd) rfl), (1, .pf (x_4.fst.l.n = x_4.fst.l.n) rfl), (2, .pf (x_4.snd = x_4.snd) rfl), (1, .pf (x_4.fst.l.n ≤ x_4.fst.l.n) (Nat.le_refl _)), (1, .pf (∀ (e : Nat), e < x_4.fst.l.n → x_4.fst.l.v.k e = x_4.fst.l.v.k e) (by intros; rfl)), (1, .pf (∀ (e : Nat), e < x_4.fst.l.n → x_4.fst.l.v.w e = x_4.fst.l.v.w e) (by intros; rfl)), (1, .pf (∀ (e : Nat), e < x_4.fst.l.n → x_4.fst.l.v.t e = x_4.fst.l.v.t e) (by intros; rfl)), (1, .pf (∀ (e : Nat), e < x_4.fst.l.n → x_4.fst.l.v.o e = x_4.fst.l.v.o e) (by intros; rfl)), (1, .pf (∀ (e : Nat), e < x_4.fst.l.n → x_4.fst.l.v.l e = x_4.fst.l.v.l e) (by intros; rfl)), (1, .pf (x_5 = x_5) rfl)]
    (V.need (x_3.n - 1 ≤ x_3.n - 1)
    (nN [(1, .pf (∀ (e : Nat), e < x_3.n - 1 → dnM (x_3.n - 1) (x_3.a (x_3.n - 1)) (x_3.n - 1) 0 (fun (e : Nat) => x_3.a e) e = dnM (x_3.n - 1) (x_3.a (x_3.n - 1)) (x_3.n - 1) 0 (fun (e : Nat) => x_3.a e) e) (by intros; rfl))] V.ok)))))))))))))))))))))
    (nN [(11, .lt2 0 1 0 1), (3, .eqI 1 1), (1, .eqI 256 256), (1, .eqI 1 1), (1, .pf (IntKind.i64.wrap (Int.ofNat 1 + IntKind.i64.wrap (b.tmod (Int.ofNat 12))) = IntKind.i64.wrap (Int.ofNat 1 + IntKind.i64.wrap (b.tmod (Int.ofNat 12)))) rfl), (1, .eqI 1 1), (1, .eqI 0 0), (1, .eqI 1 1), (1, .eq 1 1), (1, .pf (x.fst = x.fst) rfl), (1, .eq 0 0), (1, .pf (x.snd.fst = x.snd.fst) rfl), (1, .le 1 1), (1, .pf (∀ (i : Nat), i < 1 → 1 ≤ 1) (by intros; exact Nat.le_refl _)), (1, .pf (∀ (i e : Nat), i < 1 ∧ e < 1 → e = e) (by intros; rfl)), (1, .pf (∀ (i e : Nat), i < 1 ∧ e < 1 → 0 = 0) (by intros; rfl)), (1, .pf (∀ (i e : Nat), i < 1 ∧ e < 1 → x.snd.snd e = x.snd.snd e) (by intros; rfl)), (1, .le 1 1), (1, .pf (∀ (i : Nat), i < 1 → 0 ≤ 0) (by intros; exact Nat.le_refl _)), (1, .pf (∀ (i e : Nat), i < 1 ∧ e < 0 → uP (fun (x : Nat) => Int.ofNat 0) 0 e = uP (fun (x : Nat) => Int.ofNat 0) 0 e) (by intros; rfl)), (1, .pf (∀ (i e : Nat), i < 1 ∧ e < 0 → uL (fun (x : Nat) => Int.ofNat 0) 0 e = uL (fun (x : Nat) => Int.ofNat 0) 0 e) (by intros; rfl)), (1, .pf (∀ (i e : Nat), i < 1 ∧ e < 0 → uD (fun (x : Nat) => Int.ofNat 0) 0 e = uD (fun (x : Nat) => Int.ofNat 0) 0 e) (by intros; rfl))]
    (V.need (∀ (i : Nat), i < 1 → 0 ≤ gd 1 (fun (x : Nat) => 0) i ∧ 0 ≤ gd 1 (fun (e : Nat) => x.snd.snd e) i)
    (nN [(1, .pf (∀ (i e : Nat), i < 1 ∧ e < 0 → cO (fun (x : Nat) => Int.ofNat 0) 0 i e = cO (fun (x : Nat) => Int.ofNat 0) 0 i e) (by intros; rfl)), (1, .pf (∀ (i e : Nat), i < 1 ∧ e < 0 → cA (fun (x : Nat) => Int.ofNat 0) 0 i e = cA (fun (x : Nat) => Int.ofNat 0) 0 i e) (by intros; rfl)), (1, .pf (∀ (i e : Nat), i < 1 ∧ e < 0 → cB (fun (x : Nat) => Int.ofNat 0) 0 i e = cB (fun (x : Nat) => Int.ofNat 0) 0 i e) (by intros; rfl)), (2, .pf (x_2.fst = x_2.fst) rfl), (1, .pf (x_4.fst.m.lk = x_4.fst.m.lk) rfl), (1, .pf (x_4.fst.m.lc = x_4.fst.m.lc) rfl), (1, .pf (x_4.fst.m.lo = x_4.fst.m.lo) rfl), (1, .pf (x_4.fst.m.ln = x_4.fst.m.ln) rfl), (1, .pf (x_4.fst.m.ct = x_4.fst.m.ct) rfl), (1, .pf (x_2.fst = x_2.fst) rfl), (1, .pf (x_2.fst ≤ x_2.fst) (Nat.le_refl _)), (1, .pf (∀ (e : Nat), e < x_2.fst → x_4.fst.m.g e = x_4.fst.m.g e) (by intros; rfl))]
    (V.need (preSl (cfgIh b x) x_2.fst (Mm.mk (fun (e : Nat) => x_4.fst.m.g e) x_4.fst.m.lk x_4.fst.m.lc x_4.fst.m.lo x_4.fst.m.ln x_4.fst.m.ct))
    (V.need (∃ (x : Nat), cntS (IntKind.i64.wrap (Int.ofNat 1 + IntKind.i64.wrap (b.tmod (Int.ofNat 12)))) (x_4.fst.m.g 2) ≤ x)
    (V.any Nat (fun (cp : Nat) => cntS (IntKind.i64.wrap (Int.ofNat 1 + IntKind.i64.wrap (b.tmod (Int.ofNat 12)))) (x_4.fst.m.g 2) ≤ cp) fun (x_7 : Nat) => nN [(1, .pf (cntS (IntKind.i64.wrap (Int.ofNat 1 + IntKind.i64.wrap (b.tmod (Int.ofNat 12)))) (x_4.fst.m.g 2) = cntS (IntKind.i64.wrap (Int.ofNat 1 + IntKind.i64.wrap (b.tmod (Int.ofNat 12)))) (x_4.fst.m.g 2)) rfl), (1, .pf (x_7 = x_7) rfl), (1, .pf (x_3.n - 1 = x_3.n - 1) rfl), (1, .pf (x_5 = x_5) rfl), (1, .le 1 1)]
    (V.need (cntS (IntKind.i64.wrap (Int.ofNat 1 + IntKind.i64.wrap (b.tmod (Int.ofNat 12)))) (x_4.fst.m.g 2) ≤ cntS (IntKind.i64.wrap (Int.ofNat 1 + IntKind.i64.wrap (b.tmod (Int.ofNat 12)))) (x_4.fst.m.g 2) ∧ cntS (IntKind.i64.wrap (Int.ofNat 1 + IntKind.i64.wrap (b.tmod (Int.ofNat 12)))) (x_4.fst.m.g 2) ≤ x_7)
    (nN [(1, .pf (∀ (i e : Nat), i = 0 ∧ e < cntS (IntKind.i64.wrap (Int.ofNat 1 + IntKind.i64.wrap (b.tmod (Int.ofNat 12)))) (x_4.fst.m.g 2) → x_4.fst.m.g (4 + e) = x_4.fst.m.g (4 + e)) (by intros; rfl)), (1, .le 1 1)]
    (V.need (x_3.n - 1 ≤ x_3.n - 1 ∧ x_3.n - 1 ≤ x_5)
    (nN [(1, .pf (∀ (i e : Nat), i = 0 ∧ e < x_3.n - 1 → dnM (x_3.n - 1) (x_3.a (x_3.n - 1)) (x_3.n - 1) 0 (fun (e : Nat) => x_3.a e) e = dnM (x_3.n - 1) (x_3.a (x_3.n - 1)) (x_3.n - 1) 0 (fun (e : Nat) => x_3.a e) e) (by intros; rfl))]
    (V.need (cntS (IntKind.i64.wrap (Int.ofNat 1 + IntKind.i64.wrap (b.tmod (Int.ofNat 12)))) (x_4.fst.m.g 2) ≤ 100000)
    (V.need (∃ (x : Bool), x = true ↔ cntS (IntKind.i64.wrap (Int.ofNat 1 + IntKind.i64.wrap (b.tmod (Int.ofNat 12)))) (x_4.fst.m.g 2) = x_3.n - 1 ∧ ∀ (j : Nat), j < cntS (IntKind.i64.wrap (Int.ofNat 1 + IntKind.i64.wrap (b.tmod (Int.ofNat 12)))) (x_4.fst.m.g 2) → x_4.fst.m.g (4 + j) = dnM (x_3.n - 1) (x_3.a (x_3.n - 1)) (x_3.n - 1) 0 (fun (e : Nat) => x_3.a e) j)
    (V.any Bool (fun (b_1 : Bool) => b_1 = true ↔ cntS (IntKind.i64.wrap (Int.ofNat 1 + IntKind.i64.wrap (b.tmod (Int.ofNat 12)))) (x_4.fst.m.g 2) = x_3.n - 1 ∧ ∀ (j : Nat), j < cntS (IntKind.i64.wrap (Int.ofNat 1 + IntKind.i64.wrap (b.tmod (Int.ofNat 12)))) (x_4.fst.m.g 2) → x_4.fst.m.g (4 + j) = dnM (x_3.n - 1) (x_3.a (x_3.n - 1)) (x_3.n - 1) 0 (fun (e : Nat) => x_3.a e) j) fun (x_8 : Bool) => V.br (!x_8)
    (V.bad 420)
    (V.need ((IntKind.i64.wrap ((↑x_3.i : Int) + Int.ofNat 1)).toNat ≤ len ∧ (↑x_3.q : Int).toNat ≤ (IntKind.i64.wrap ((↑x_3.i : Int) + Int.ofNat 1)).toNat ∧ (↑(x_3.n - 1) : Int) ≤ hIh b ∧ x_3.n - 1 ≤ x_5 ∧ x_4.fst.m.g 2 = (↑(x_3.n - 1) : Int) ∧ x_4.fst.m.g 3 = (↑(↑x_3.q : Int).toNat : Int) ∧ (∀ (j : Nat), j < x_3.n - 1 → dnM (x_3.n - 1) (x_3.a (x_3.n - 1)) (x_3.n - 1) 0 (fun (e : Nat) => x_3.a e) j = x_4.fst.m.g (4 + j)) ∧ (∀ (j : Nat), j < x_3.n - 1 → Int.ofNat 0 ≤ dnM (x_3.n - 1) (x_3.a (x_3.n - 1)) (x_3.n - 1) 0 (fun (e : Nat) => x_3.a e) j ∧ dnM (x_3.n - 1) (x_3.a (x_3.n - 1)) (x_3.n - 1) 0 (fun (e : Nat) => x_3.a e) j ≤ Int.ofNat 18446744073709551615) ∧ x_4.fst.l.n ≤ (IntKind.i64.wrap ((↑x_3.i : Int) + Int.ofNat 1)).toNat ∧ x_4.fst.l.n ≤ x_4.snd)
    (V.need (len - (IntKind.i64.wrap ((↑x_3.i : Int) + Int.ofNat 1)).toNat < len - x_3.i)
    (V.need (IntKind.i64.wrap ((↑x_3.i : Int) + Int.ofNat 1) = (↑(IntKind.i64.wrap ((↑x_3.i : Int) + Int.ofNat 1)).toNat : Int))
    (V.need ((↑x_3.q : Int) = (↑(↑x_3.q : Int).toNat : Int))
    (nN [(1, .pf (x_3.n - 1 = x_3.n - 1) rfl), (1, .pf (x_5 = x_5) rfl), (2, .pf (x_2.fst = x_2.fst) rfl), (1, .pf (x_4.fst.m.lk = x_4.fst.m.lk) rfl), (1, .pf (x_4.fst.m.lc = x_4.fst.m.lc) rfl), (1, .pf (x_4.fst.m.lo = x_4.fst.m.lo) rfl), (1, .pf (x_4.fst.m.ln = x_4.fst.m.ln) rfl), (1, .pf (x_4.fst.m.ct = x_4.fst.m.ct) rfl), (1, .pf (x_2.fst = x_2.fst) rfl), (1, .pf (x_2.fst ≤ x_2.fst) (Nat.le_refl _)), (1, .pf (∀ (e : Nat), e < x_2.fst → x_4.fst.m.g e = x_4.fst.m.g e) (by intros; rfl)), (1, .pf (IntKind.i64.wrap (Int.ofNat 1 + IntKind.i64.wrap (b.tmod (Int.ofNat 12))) = IntKind.i64.wrap (Int.ofNat 1 + IntKind.i64.wrap (b.tmod (Int.ofNat 12)))) rfl), (3, .eqI 1 1), (1, .eqI 256 256), (1, .eqI 1 1), (1, .pf (IntKind.i64.wrap (Int.ofNat 1 + IntKind.i64.wrap (b.tmod (Int.ofNat 12))) = IntKind.i64.wrap (Int.ofNat 1 + IntKind.i64.wrap (b.tmod (Int.ofNat 12)))) rfl), (1, .pf (lS (cfgIh b x) = lS (cfgIh b x)) rfl), (1, .pf (lE (cfgIh b x) = lE (cfgIh b x)) rfl), (1, .pf (lB (cfgIh b x) = lB (cfgIh b x)) rfl), (1, .pf (lQ (cfgIh b x) = lQ (cfgIh b x)) rfl), (1, .pf (x_2.snd = x_2.snd) rfl), (1, .pf (x_4.fst.l.n = x_4.fst.l.n) rfl), (2, .pf (x_4.snd = x_4.snd) rfl), (1, .pf (x_4.fst.l.n ≤ x_4.fst.l.n) (Nat.le_refl _)), (1, .pf (∀ (e : Nat), e < x_4.fst.l.n → x_4.fst.l.v.k e = x_4.fst.l.v.k e) (by intros; rfl)), (1, .pf (∀ (e : Nat), e < x_4.fst.l.n → x_4.fst.l.v.w e = x_4.fst.l.v.w e) (by intros; rfl)), (1, .pf (∀ (e : Nat), e < x_4.fst.l.n → x_4.fst.l.v.t e = x_4.fst.l.v.t e) (by intros; rfl)), (1, .pf (∀ (e : Nat), e < x_4.fst.l.n → x_4.fst.l.v.o e = x_4.fst.l.v.o e) (by intros; rfl)), (1, .pf (∀ (e : Nat), e < x_4.fst.l.n → x_4.fst.l.v.l e = x_4.fst.l.v.l e) (by intros; rfl)), (1, .pf (x_5 = x_5) rfl)]
    (V.need (x_3.n - 1 ≤ x_3.n - 1)
    (nN [(1, .pf (∀ (e : Nat), e < x_3.n - 1 → dnM (x_3.n - 1) (x_3.a (x_3.n - 1)) (x_3.n - 1) 0 (fun (e : Nat) => x_3.a e) e = dnM (x_3.n - 1) (x_3.a (x_3.n - 1)) (x_3.n - 1) 0 (fun (e : Nat) => x_3.a e) e) (by intros; rfl))] V.ok)))))))))))))))))))))))))))))))))))))))))) V.ok))))))))))))))))))) := by kernel_rfl


end Go.Proofs.Ytomaagmleafjeaa.Md

/- InjectorHeaps: the conditions hold; the walk. -/
set_option linter.unusedVariables false
set_option linter.unusedSimpArgs false
set_option maxRecDepth 100000
namespace Go.Proofs.Ytomaagmleafjeaa.Md
open Go Go.RowKit Sx Cn Dc Ck Vc
theorem hIh_e {b : Int} : IntKind.i64.wrap (Int.ofNat 1 + IntKind.i64.wrap (b.tmod (Int.ofNat 12))) = hIh b := rfl
theorem hIh_bd {b : Int} (h : 0 ≤ b) : 1 ≤ hIh b ∧ hIh b ≤ 12 := by
  unfold hIh
  rw [Int.tmod_eq_emod_of_nonneg h, Int.ofNat_eq_natCast, w64 (n := b % ((12 : Nat) : Int)) (by omega), w64 (by omega)]
  omega
theorem pijI {x : AP} {H : Int} (h : x.y.H = H) (hH : 1 ≤ H ∧ H ≤ 12) : pIJ x 200 := ⟨⟨by omega, by omega⟩, by decide⟩
theorem ex_b {p : Prop} : ∃ x : Bool, x = true ↔ p := by
  classical
  exact ⟨decide p, decide_eq_true_iff⟩
theorem bad_b {p : Prop} {b : Bool} (h : b = true ↔ p) (hp : p) (hb : (!b) = true) : False := by
  rw [h.2 hp] at hb
  cases hb
theorem ih3 {c ls k : Int} (hc : c = Int.ofNat 3) (hl : ls = k) (h : (!(c == Int.ofNat 3) == (ls == k)) = true) : False := by
  subst hc hl
  simp at h
theorem ih0 {c ls k : Int} (hc : c = Int.ofNat 0) (hl : ls < k) (h : (!(c == Int.ofNat 3) == (ls == k)) = true) : False := by
  subst hc
  have : (ls == k) = false := by simp; omega
  rw [this] at h
  exact absurd h (by decide)
theorem cnt_e {H : Int} {N : Nat} {z : Int} (hz : z = N) (h : (N : Int) ≤ H) : cntS H z = N := by unfold cntS; omega
theorem preI {c : Cf} {n : Nat} {m : Mm} {H : Int} {N : Nat} (h : c.H = H) (hH : 1 ≤ H ∧ H ≤ 12) (hn : 4 + H ≤ n) (hz : m.g 2 = N) (hN : (N : Int) ≤ H) : preSl c n m := ⟨by omega, by omega, by omega, by omega⟩
theorem c3n {c : Int} (hc : c = Int.ofNat 3) (h : (c == Int.ofNat 0) = true) : False := by
  subst hc
  exact absurd h (by decide)
theorem c0n {c : Int} (hc : c = Int.ofNat 0) (h : (c != Int.ofNat 3) = false) : False := by
  subst hc
  exact absurd h (by decide)
theorem c2n {c : Int} (hc : c = Int.ofNat 2) (h : (!(c == Int.ofNat 1) == false) = true) : False := by
  subst hc
  exact absurd h (by decide)
theorem c2m {c : Int} (hc : c = Int.ofNat 2) (h : (c != Int.ofNat 1) = false) : False := by
  subst hc
  exact absurd h (by decide)
theorem c1n {c : Int} (hc : c = Int.ofNat 1) (h : (!(c == Int.ofNat 1) == true) = true) : False := by
  subst hc
  exact absurd h (by decide)
set_option maxHeartbeats 16000000 in
theorem vhIh {b : Int} {g : Nat → Int} {len cap : Nat} (hb : 0 ≤ b ∧ b ≤ 255) (hg : ∀ v, v < len → 0 ≤ g v ∧ g v ≤ 65535) : VHolds (verIh b g len cap) := by
  constructor
  rw [verIh_eq]
  refine V.brI (fun _ => V.okI) fun hlen => ?_
  have hl : len ≤ 100 := by simp at hlen; omega
  have hH := hIh_bd hb.1
  simp only [cfgIh, hIh_e]
  (repeat' first | with_reducible exact V.okI | with_reducible refine V.anyCfg ?_ | with_reducible refine V.anyMm ?_ | with_reducible refine V.anyInt ?_ | with_reducible refine V.anyNat ?_ | with_reducible refine V.anyCl' ?_ | with_reducible refine nN_h rfl ?_ | with_reducible refine V.needI ?_ ?_ | with_reducible intro _)
  all_goals first
    | (first | rfl | exact True.intro | exact ⟨u8_0, by decide⟩ | exact ⟨(1, 0, fun _ => 0), Nat.le_refl _⟩ | exact ⟨Nat.le_refl _, by assumption⟩ | exact Nat.zero_le _ | exact ⟨Nat.zero_le _, Nat.zero_le _⟩ | exact ⟨(_, _), is_cl _, Nat.le_refl _⟩ | exact err9 (by unfold okN; simp only [Int.ofNat_eq_natCast]; omega) rfl rfl rfl | decide)
    | exact err9 (by unfold okN; dsimp only; omega) rfl rfl rfl
    | exact ⟨(_, _), is_cl _, Nat.le_refl _⟩
    | exact ⟨u8_0, by decide⟩
    | omega
    | skip
  refine V.anyI fun q hq => ?_
  have hn : 4 + hIh b ≤ q.1 := by
    rw [hq]
    show _ ≤ ((ncI _).toNat : Int)
    unfold ncI lT lQ
    dsimp only
    simp only [Int.ofNat_eq_natCast, Int.natCast_zero, Int.natCast_one]
    omega
  obtain ⟨n, t⟩ := q
  clear hq
  simp only at hn
  (repeat' first | with_reducible exact V.okI | with_reducible refine V.anyCfg ?_ | with_reducible refine V.anyMm ?_ | with_reducible refine V.anyInt ?_ | with_reducible refine V.anyNat ?_ | with_reducible refine V.anyCl' ?_ | with_reducible refine nN_h rfl ?_ | with_reducible refine V.needI ?_ ?_ | with_reducible intro _)
  all_goals first
    | trivial
    | exact ⟨Nat.zero_le _, Nat.le_refl _, by omega, Nat.le_refl _, rfl, rfl, fun j h => absurd h (Nat.not_lt_zero _), fun j h => absurd h (Nat.not_lt_zero _), Nat.le_refl _, Nat.le_refl _⟩
    | omega
    | exact rfl
    | exact fun e h => absurd h (Nat.not_lt_zero _)
    | skip
  refine V.anyI fun x hx => ?_
  obtain ⟨o1, o2, o3, o4, o5, o6, o7, o8, o9, o10⟩ := hx
  refine V.brI (fun hi => ?_) fun hi => V.okI
  have hi : x.i < len := by have := of_decide_eq_true hi; omega
  have ei : IntKind.i64.wrap ((x.i : Int) + Int.ofNat 1) = ((x.i + 1 : Nat) : Int) := wnat (by omega)
  have eq1 : IntKind.i64.wrap ((x.q : Int) + Int.ofNat 1) = ((x.q + 1 : Nat) : Int) := wnat (by omega)
  have hd : 0 ≤ (g x.i).tmod (Int.ofNat 16) ∧ (g x.i).tmod (Int.ofNat 16) ≤ 15 := by
    have h1 := hg x.i hi
    rw [Int.tmod_eq_emod_of_nonneg h1.1, Int.ofNat_eq_natCast]
    omega
  have ed : IntKind.i64.wrap ((g x.i).tmod (Int.ofNat 16)) = (g x.i).tmod (Int.ofNat 16) := w64 (by omega)
  simp only [ei, eq1, ed, Mm.eta, Int.toNat_natCast, Nat.zero_add]
  (repeat' first | with_reducible exact V.okI | with_reducible refine nN_h rfl ?_ | with_reducible refine V.needI ?_ ?_)
  all_goals try first
    | trivial
    | omega
    | exact fun i _ => ⟨Nat.zero_le _, Nat.zero_le _⟩
    | exact pijI (H := hIh b) rfl hH
    | exact ⟨pijI (H := hIh b) rfl hH, by omega, by omega⟩
    | exact ⟨_, rfl⟩
    | exact ⟨(_, _), rfl, Nat.le_refl _⟩
    | exact ⟨_, Nat.le_refl _⟩
    | exact ⟨(0, 0, _), rfl⟩
    | exact ex_b
    | exact ⟨Nat.le_refl _, by assumption⟩
    | (simp only [Int.ofNat_eq_natCast, Int.natCast_zero, Int.natCast_one]; omega)
  refine V.brI (fun hodd => ?_) fun hodd => ?_
  · clear hodd
    (repeat' first | with_reducible exact V.okI | with_reducible refine nN_h rfl ?_ | with_reducible refine V.needI ?_ ?_)
    all_goals try first
      | trivial
      | omega
      | exact fun i _ => ⟨Nat.zero_le _, Nat.zero_le _⟩
      | exact pijI (H := hIh b) rfl hH
      | exact ⟨pijI (H := hIh b) rfl hH, by omega, by omega⟩
      | exact ⟨_, rfl⟩
      | exact ⟨(_, _), rfl, Nat.le_refl _⟩
      | exact ⟨_, Nat.le_refl _⟩
      | exact ⟨(0, 0, _), rfl⟩
      | exact ex_b
      | exact ⟨Nat.le_refl _, by assumption⟩
      | (simp only [Int.ofNat_eq_natCast, Int.natCast_zero, Int.natCast_one]; omega)
    refine V.anyI fun R hR => ?_
    obtain ⟨Y, hY, hR⟩ : ∃ Y : Ly, Y.H = hIh b ∧ R = inR Y n ((g x.i).tmod (Int.ofNat 16)) x.i 200 x.m := ⟨_, rfl, hR⟩
    have hH' : 1 ≤ Y.H ∧ Y.H ≤ 12 := by rw [hY]; exact hH
    have hn' : 4 + Y.H ≤ n := by rw [hY]; exact hn
    by_cases full : (x.n : Int) = hIh b
    · obtain ⟨F1, F2⟩ := ihFull (d := (g x.i).tmod (Int.ofNat 16)) (i := x.i) hH' hn' o5 (by rw [hY]; exact full)
      rw [← hR] at F1 F2
      clear hR
      have F1 : R.c = Int.ofNat 3 := F1
      have g2 : R.m.g 2 = (x.n : Int) := by rw [F2]; exact o5
      have hpre : ∀ {c : Cf}, c.H = hIh b → preSl c n R.m := fun h => preI h hH hn g2 o3
      have hP : cntS (hIh b) (R.m.g 2) = x.n ∧ ∀ j, j < cntS (hIh b) (R.m.g 2) → R.m.g (4 + j) = x.a j := by
        rw [cnt_e g2 o3]
        exact ⟨rfl, fun j hj => by rw [F2, o7 j hj]⟩
      (repeat' first | with_reducible exact V.okI | with_reducible refine nN_h rfl ?_ | with_reducible refine V.needI ?_ ?_)
      all_goals try first
        | trivial
        | omega
        | exact fun i _ => ⟨Nat.zero_le _, Nat.zero_le _⟩
        | exact pijI (H := hIh b) rfl hH
        | exact ⟨pijI (H := hIh b) rfl hH, by omega, by omega⟩
        | exact ⟨_, rfl⟩
        | exact ⟨(_, _), rfl, Nat.le_refl _⟩
        | exact ⟨_, Nat.le_refl _⟩
        | exact ⟨(0, 0, _), rfl⟩
        | exact ex_b
        | exact ⟨Nat.le_refl _, by assumption⟩
        | (simp only [Int.ofNat_eq_natCast, Int.natCast_zero, Int.natCast_one]; omega)
      refine V.brI (fun h => (ih3 F1 full h).elim) fun _ => ?_
      (repeat' first | with_reducible exact V.okI | with_reducible refine nN_h rfl ?_ | with_reducible refine V.needI ?_ ?_)
      all_goals try first
        | trivial
        | omega
        | exact fun i _ => ⟨Nat.zero_le _, Nat.zero_le _⟩
        | exact pijI (H := hIh b) rfl hH
        | exact ⟨pijI (H := hIh b) rfl hH, by omega, by omega⟩
        | exact ⟨_, rfl⟩
        | exact ⟨(_, _), rfl, Nat.le_refl _⟩
        | exact ⟨_, Nat.le_refl _⟩
        | exact ⟨(0, 0, _), rfl⟩
        | exact ex_b
        | exact ⟨Nat.le_refl _, by assumption⟩
        | (simp only [Int.ofNat_eq_natCast, Int.natCast_zero, Int.natCast_one]; omega)
      refine V.brI (fun h => (cne F1 h).elim) fun _ => ?_
      (repeat' first | with_reducible exact V.okI | with_reducible refine nN_h rfl ?_ | with_reducible refine V.needI ?_ ?_)
      all_goals try first
        | trivial
        | omega
        | exact fun i _ => ⟨Nat.zero_le _, Nat.zero_le _⟩
        | exact pijI (H := hIh b) rfl hH
        | exact ⟨pijI (H := hIh b) rfl hH, by omega, by omega⟩
        | exact ⟨_, rfl⟩
        | exact ⟨(_, _), rfl, Nat.le_refl _⟩
        | exact ⟨_, Nat.le_refl _⟩
        | exact ⟨(0, 0, _), rfl⟩
        | exact ex_b
        | exact ⟨Nat.le_refl _, by assumption⟩
        | (simp only [Int.ofNat_eq_natCast, Int.natCast_zero, Int.natCast_one]; omega)
      refine V.brI (fun h => (c3n F1 h).elim) fun _ => ?_
      (repeat' first | with_reducible exact V.okI | with_reducible refine nN_h rfl ?_ | with_reducible refine V.needI ?_ ?_)
      all_goals try first
        | trivial
        | omega
        | exact fun i _ => ⟨Nat.zero_le _, Nat.zero_le _⟩
        | exact pijI (H := hIh b) rfl hH
        | exact ⟨pijI (H := hIh b) rfl hH, by omega, by omega⟩
        | exact ⟨_, rfl⟩
        | exact ⟨(_, _), rfl, Nat.le_refl _⟩
        | exact ⟨_, Nat.le_refl _⟩
        | exact ⟨(0, 0, _), rfl⟩
        | exact ex_b
        | exact ⟨Nat.le_refl _, by assumption⟩
        | (simp only [Int.ofNat_eq_natCast, Int.natCast_zero, Int.natCast_one]; omega)
      all_goals try exact hpre rfl
      refine V.anyI fun c1 hc1 => ?_
      (repeat' first | with_reducible exact V.okI | with_reducible refine nN_h rfl ?_ | with_reducible refine V.needI ?_ ?_)
      all_goals try first
        | trivial
        | omega
        | exact fun i _ => ⟨Nat.zero_le _, Nat.zero_le _⟩
        | exact pijI (H := hIh b) rfl hH
        | exact ⟨pijI (H := hIh b) rfl hH, by omega, by omega⟩
        | exact ⟨_, rfl⟩
        | exact ⟨(_, _), rfl, Nat.le_refl _⟩
        | exact ⟨_, Nat.le_refl _⟩
        | exact ⟨(0, 0, _), rfl⟩
        | exact ex_b
        | exact ⟨Nat.le_refl _, by assumption⟩
        | (simp only [Int.ofNat_eq_natCast, Int.natCast_zero, Int.natCast_one]; omega)
      refine V.anyI fun b1 hb1 => V.brI (fun h => (bad_b hb1 hP h).elim) fun _ => ?_
      (repeat' first | with_reducible exact V.okI | with_reducible refine nN_h rfl ?_ | with_reducible refine V.needI ?_ ?_)
      all_goals try first
        | trivial
        | omega
        | exact fun i _ => ⟨Nat.zero_le _, Nat.zero_le _⟩
        | exact pijI (H := hIh b) rfl hH
        | exact ⟨pijI (H := hIh b) rfl hH, by omega, by omega⟩
        | exact ⟨_, rfl⟩
        | exact ⟨(_, _), rfl, Nat.le_refl _⟩
        | exact ⟨_, Nat.le_refl _⟩
        | exact ⟨(0, 0, _), rfl⟩
        | exact ex_b
        | exact ⟨Nat.le_refl _, by assumption⟩
        | (simp only [Int.ofNat_eq_natCast, Int.natCast_zero, Int.natCast_one]; omega)
      all_goals first
        | exact ⟨by omega, by omega, o3, o4, g2, by rw [F2]; exact o6, fun j hj => by rw [F2, o7 j hj], o8, by omega, o10⟩
        | skip
    · have hlt : (x.n : Int) < hIh b := by omega
      obtain ⟨F1, F2, F3, F4⟩ := ihFine (a := x.a) hH' hn' o5 (by rw [hY]; exact hlt) o6 (by omega) hd (show x.i ≤ 100 by omega) o7
      have hk := ihKey (q := x.q) (i := x.i) (by omega) hd (by omega)
      rw [← hR] at F1 F2 F3 F4
      clear hR
      have F1 : R.c = Int.ofNat 0 := F1
      have hpre : ∀ {c : Cf}, c.H = hIh b → preSl c n R.m := fun h => preI h hH hn F2 (by omega)
      have hP : cntS (hIh b) (R.m.g 2) = x.n + 1 ∧ ∀ j, j < cntS (hIh b) (R.m.g 2) → R.m.g (4 + j) = upM x.n (pkW ((g x.i).tmod (Int.ofNat 16)) x.q x.i) x.a j := by
        rw [cnt_e F2 (by omega)]
        exact ⟨rfl, fun j hj => (F4 j hj).symm⟩
      (repeat' first | with_reducible exact V.okI | with_reducible refine nN_h rfl ?_ | with_reducible refine V.needI ?_ ?_)
      all_goals try first
        | trivial
        | omega
        | exact fun i _ => ⟨Nat.zero_le _, Nat.zero_le _⟩
        | exact pijI (H := hIh b) rfl hH
        | exact ⟨pijI (H := hIh b) rfl hH, by omega, by omega⟩
        | exact ⟨_, rfl⟩
        | exact ⟨(_, _), rfl, Nat.le_refl _⟩
        | exact ⟨_, Nat.le_refl _⟩
        | exact ⟨(0, 0, _), rfl⟩
        | exact ex_b
        | exact ⟨Nat.le_refl _, by assumption⟩
        | (simp only [Int.ofNat_eq_natCast, Int.natCast_zero, Int.natCast_one]; omega)
      refine V.brI (fun h => (ih0 F1 hlt h).elim) fun _ => ?_
      (repeat' first | with_reducible exact V.okI | with_reducible refine nN_h rfl ?_ | with_reducible refine V.needI ?_ ?_)
      all_goals try first
        | trivial
        | omega
        | exact fun i _ => ⟨Nat.zero_le _, Nat.zero_le _⟩
        | exact pijI (H := hIh b) rfl hH
        | exact ⟨pijI (H := hIh b) rfl hH, by omega, by omega⟩
        | exact ⟨_, rfl⟩
        | exact ⟨(_, _), rfl, Nat.le_refl _⟩
        | exact ⟨_, Nat.le_refl _⟩
        | exact ⟨(0, 0, _), rfl⟩
        | exact ex_b
        | exact ⟨Nat.le_refl _, by assumption⟩
        | (simp only [Int.ofNat_eq_natCast, Int.natCast_zero, Int.natCast_one]; omega)
      refine V.brI (fun _ => ?_) fun h => (c0n F1 h).elim
      (repeat' first | with_reducible exact V.okI | with_reducible refine nN_h rfl ?_ | with_reducible refine V.needI ?_ ?_)
      all_goals try first
        | trivial
        | omega
        | exact fun i _ => ⟨Nat.zero_le _, Nat.zero_le _⟩
        | exact pijI (H := hIh b) rfl hH
        | exact ⟨pijI (H := hIh b) rfl hH, by omega, by omega⟩
        | exact ⟨_, rfl⟩
        | exact ⟨(_, _), rfl, Nat.le_refl _⟩
        | exact ⟨_, Nat.le_refl _⟩
        | exact ⟨(0, 0, _), rfl⟩
        | exact ex_b
        | exact ⟨Nat.le_refl _, by assumption⟩
        | (simp only [Int.ofNat_eq_natCast, Int.natCast_zero, Int.natCast_one]; omega)
      refine V.brI (fun h => (cne F1 h).elim) fun _ => ?_
      (repeat' first | with_reducible exact V.okI | with_reducible refine nN_h rfl ?_ | with_reducible refine V.needI ?_ ?_)
      all_goals try first
        | trivial
        | omega
        | exact fun i _ => ⟨Nat.zero_le _, Nat.zero_le _⟩
        | exact pijI (H := hIh b) rfl hH
        | exact ⟨pijI (H := hIh b) rfl hH, by omega, by omega⟩
        | exact ⟨_, rfl⟩
        | exact ⟨(_, _), rfl, Nat.le_refl _⟩
        | exact ⟨_, Nat.le_refl _⟩
        | exact ⟨(0, 0, _), rfl⟩
        | exact ex_b
        | exact ⟨Nat.le_refl _, by assumption⟩
        | (simp only [Int.ofNat_eq_natCast, Int.natCast_zero, Int.natCast_one]; omega)
      refine V.brI (fun _ => ?_) fun h => (ceq F1 h).elim
      (repeat' first | with_reducible exact V.okI | with_reducible refine nN_h rfl ?_ | with_reducible refine V.needI ?_ ?_)
      all_goals try first
        | trivial
        | omega
        | exact fun i _ => ⟨Nat.zero_le _, Nat.zero_le _⟩
        | exact pijI (H := hIh b) rfl hH
        | exact ⟨pijI (H := hIh b) rfl hH, by omega, by omega⟩
        | exact ⟨_, rfl⟩
        | exact ⟨(_, _), rfl, Nat.le_refl _⟩
        | exact ⟨_, Nat.le_refl _⟩
        | exact ⟨(0, 0, _), rfl⟩
        | exact ex_b
        | exact ⟨Nat.le_refl _, by assumption⟩
        | (simp only [Int.ofNat_eq_natCast, Int.natCast_zero, Int.natCast_one]; omega)
      refine V.anyI fun p hp => ?_
      obtain ⟨p1, p2⟩ := p
      obtain ⟨rfl, rfl⟩ := Prod.mk.inj hp
      dsimp only
      (repeat' first | with_reducible exact V.okI | with_reducible refine nN_h rfl ?_ | with_reducible refine V.needI ?_ ?_)
      all_goals try first
        | trivial
        | omega
        | exact fun i _ => ⟨Nat.zero_le _, Nat.zero_le _⟩
        | exact pijI (H := hIh b) rfl hH
        | exact ⟨pijI (H := hIh b) rfl hH, by omega, by omega⟩
        | exact ⟨_, rfl⟩
        | exact ⟨(_, _), rfl, Nat.le_refl _⟩
        | exact ⟨_, Nat.le_refl _⟩
        | exact ⟨(0, 0, _), rfl⟩
        | exact ex_b
        | exact ⟨Nat.le_refl _, by assumption⟩
        | (simp only [Int.ofNat_eq_natCast, Int.natCast_zero, Int.natCast_one]; omega)
      refine V.anyI fun cp hcp => ?_
      (repeat' first | with_reducible exact V.okI | with_reducible refine nN_h rfl ?_ | with_reducible refine V.needI ?_ ?_)
      all_goals try first
        | trivial
        | omega
        | exact fun i _ => ⟨Nat.zero_le _, Nat.zero_le _⟩
        | exact pijI (H := hIh b) rfl hH
        | exact ⟨pijI (H := hIh b) rfl hH, by omega, by omega⟩
        | exact ⟨_, rfl⟩
        | exact ⟨(_, _), rfl, Nat.le_refl _⟩
        | exact ⟨_, Nat.le_refl _⟩
        | exact ⟨(0, 0, _), rfl⟩
        | exact ex_b
        | exact ⟨Nat.le_refl _, by assumption⟩
        | (simp only [Int.ofNat_eq_natCast, Int.natCast_zero, Int.natCast_one]; omega)
      all_goals try exact hpre rfl
      refine V.anyI fun c1 hc1 => ?_
      (repeat' first | with_reducible exact V.okI | with_reducible refine nN_h rfl ?_ | with_reducible refine V.needI ?_ ?_)
      all_goals try first
        | trivial
        | omega
        | exact fun i _ => ⟨Nat.zero_le _, Nat.zero_le _⟩
        | exact pijI (H := hIh b) rfl hH
        | exact ⟨pijI (H := hIh b) rfl hH, by omega, by omega⟩
        | exact ⟨_, rfl⟩
        | exact ⟨(_, _), rfl, Nat.le_refl _⟩
        | exact ⟨_, Nat.le_refl _⟩
        | exact ⟨(0, 0, _), rfl⟩
        | exact ex_b
        | exact ⟨Nat.le_refl _, by assumption⟩
        | (simp only [Int.ofNat_eq_natCast, Int.natCast_zero, Int.natCast_one]; omega)
      refine V.anyI fun b1 hb1 => V.brI (fun h => (bad_b hb1 hP h).elim) fun _ => ?_
      (repeat' first | with_reducible exact V.okI | with_reducible refine nN_h rfl ?_ | with_reducible refine V.needI ?_ ?_)
      all_goals try first
        | trivial
        | omega
        | exact fun i _ => ⟨Nat.zero_le _, Nat.zero_le _⟩
        | exact pijI (H := hIh b) rfl hH
        | exact ⟨pijI (H := hIh b) rfl hH, by omega, by omega⟩
        | exact ⟨_, rfl⟩
        | exact ⟨(_, _), rfl, Nat.le_refl _⟩
        | exact ⟨_, Nat.le_refl _⟩
        | exact ⟨(0, 0, _), rfl⟩
        | exact ex_b
        | exact ⟨Nat.le_refl _, by assumption⟩
        | (simp only [Int.ofNat_eq_natCast, Int.natCast_zero, Int.natCast_one]; omega)
      all_goals first
        | exact ⟨by omega, by omega, by omega, hcp, F2, F3, F4, fun j hj => up_ok (p := u64p) (by omega) (fun z hz hne => o8 z (by omega)) hk j hj, by omega, o10⟩
        | skip
  · clear hodd
    (repeat' first | with_reducible exact V.okI | with_reducible refine nN_h rfl ?_ | with_reducible refine V.needI ?_ ?_)
    all_goals try first
      | trivial
      | omega
      | exact fun i _ => ⟨Nat.zero_le _, Nat.zero_le _⟩
      | exact pijI (H := hIh b) rfl hH
      | exact ⟨pijI (H := hIh b) rfl hH, by omega, by omega⟩
      | exact ⟨_, rfl⟩
      | exact ⟨(_, _), rfl, Nat.le_refl _⟩
      | exact ⟨_, Nat.le_refl _⟩
      | exact ⟨(0, 0, _), rfl⟩
      | exact ex_b
      | exact ⟨Nat.le_refl _, by assumption⟩
      | (simp only [Int.ofNat_eq_natCast, Int.natCast_zero, Int.natCast_one]; omega)
    refine V.anyI fun R hR => ?_
    obtain ⟨R, nc⟩ := R
    obtain ⟨hR, hnc⟩ := hR
    dsimp only at hR hnc ⊢
    rw [← hR] at hnc
    obtain ⟨Y, hY, hR⟩ : ∃ Y : Ly, Y.H = hIh b ∧ R = rmR Y n 0 200 x.m x.l := ⟨_, rfl, hR⟩
    have hH' : 1 ≤ Y.H ∧ Y.H ≤ 12 := by rw [hY]; exact hH
    have hn' : 4 + Y.H ≤ n := by rw [hY]; exact hn
    (repeat' first | with_reducible exact V.okI | with_reducible refine nN_h rfl ?_ | with_reducible refine V.needI ?_ ?_)
    all_goals try first
      | trivial
      | omega
      | exact fun i _ => ⟨Nat.zero_le _, Nat.zero_le _⟩
      | exact pijI (H := hIh b) rfl hH
      | exact ⟨pijI (H := hIh b) rfl hH, by omega, by omega⟩
      | exact ⟨_, rfl⟩
      | exact ⟨(_, _), rfl, Nat.le_refl _⟩
      | exact ⟨_, Nat.le_refl _⟩
      | exact ⟨(0, 0, _), rfl⟩
      | exact ex_b
      | exact ⟨Nat.le_refl _, by assumption⟩
      | (simp only [Int.ofNat_eq_natCast, Int.natCast_zero, Int.natCast_one]; omega)
    refine V.brI (fun c0 => ?_) fun c0 => ?_
    · have c0 : x.n = 0 := by have h : (x.n : Int) = (0 : Int) := of_decide_eq_true c0; omega
      obtain ⟨F1, F2, F3⟩ := ihNone (l := x.l) (w := 0) hH' hn' (by rw [o5, c0])
      rw [← hR] at F1 F2 F3
      clear hR
      have F1 : R.c = Int.ofNat 2 := F1
      have g2 : R.m.g 2 = ((0 : Nat) : Int) := by rw [F3, o5, c0]
      have hpre : ∀ {c : Cf}, c.H = hIh b → preSl c n R.m := fun h => preI h hH hn g2 (by omega)
      have hP : cntS (hIh b) (R.m.g 2) = 0 ∧ ∀ j, j < cntS (hIh b) (R.m.g 2) → R.m.g (4 + j) = Int.ofNat 0 := by
        rw [cnt_e g2 (by omega)]
        exact ⟨rfl, fun j hj => absurd hj (Nat.not_lt_zero _)⟩
      (repeat' first | with_reducible exact V.okI | with_reducible refine nN_h rfl ?_ | with_reducible refine V.needI ?_ ?_)
      all_goals try first
        | trivial
        | omega
        | exact fun i _ => ⟨Nat.zero_le _, Nat.zero_le _⟩
        | exact pijI (H := hIh b) rfl hH
        | exact ⟨pijI (H := hIh b) rfl hH, by omega, by omega⟩
        | exact ⟨_, rfl⟩
        | exact ⟨(_, _), rfl, Nat.le_refl _⟩
        | exact ⟨_, Nat.le_refl _⟩
        | exact ⟨(0, 0, _), rfl⟩
        | exact ex_b
        | exact ⟨Nat.le_refl _, by assumption⟩
        | (simp only [Int.ofNat_eq_natCast, Int.natCast_zero, Int.natCast_one]; omega)
      refine V.anyI fun p hp => ?_
      (repeat' first | with_reducible exact V.okI | with_reducible refine nN_h rfl ?_ | with_reducible refine V.needI ?_ ?_)
      all_goals try first
        | trivial
        | omega
        | exact fun i _ => ⟨Nat.zero_le _, Nat.zero_le _⟩
        | exact pijI (H := hIh b) rfl hH
        | exact ⟨pijI (H := hIh b) rfl hH, by omega, by omega⟩
        | exact ⟨_, rfl⟩
        | exact ⟨(_, _), rfl, Nat.le_refl _⟩
        | exact ⟨_, Nat.le_refl _⟩
        | exact ⟨(0, 0, _), rfl⟩
        | exact ex_b
        | exact ⟨Nat.le_refl _, by assumption⟩
        | (simp only [Int.ofNat_eq_natCast, Int.natCast_zero, Int.natCast_one]; omega)
      refine V.brI (fun h => (c2n F1 h).elim) fun _ => ?_
      (repeat' first | with_reducible exact V.okI | with_reducible refine nN_h rfl ?_ | with_reducible refine V.needI ?_ ?_)
      all_goals try first
        | trivial
        | omega
        | exact fun i _ => ⟨Nat.zero_le _, Nat.zero_le _⟩
        | exact pijI (H := hIh b) rfl hH
        | exact ⟨pijI (H := hIh b) rfl hH, by omega, by omega⟩
        | exact ⟨_, rfl⟩
        | exact ⟨(_, _), rfl, Nat.le_refl _⟩
        | exact ⟨_, Nat.le_refl _⟩
        | exact ⟨(0, 0, _), rfl⟩
        | exact ex_b
        | exact ⟨Nat.le_refl _, by assumption⟩
        | (simp only [Int.ofNat_eq_natCast, Int.natCast_zero, Int.natCast_one]; omega)
      refine V.brI (fun _ => ?_) fun h => (c2m F1 h).elim
      (repeat' first | with_reducible exact V.okI | with_reducible refine nN_h rfl ?_ | with_reducible refine V.needI ?_ ?_)
      all_goals try first
        | trivial
        | omega
        | exact fun i _ => ⟨Nat.zero_le _, Nat.zero_le _⟩
        | exact pijI (H := hIh b) rfl hH
        | exact ⟨pijI (H := hIh b) rfl hH, by omega, by omega⟩
        | exact ⟨_, rfl⟩
        | exact ⟨(_, _), rfl, Nat.le_refl _⟩
        | exact ⟨_, Nat.le_refl _⟩
        | exact ⟨(0, 0, _), rfl⟩
        | exact ex_b
        | exact ⟨Nat.le_refl _, by assumption⟩
        | (simp only [Int.ofNat_eq_natCast, Int.natCast_zero, Int.natCast_one]; omega)
      refine V.brI (fun h => (cne F1 h).elim) fun _ => ?_
      (repeat' first | with_reducible exact V.okI | with_reducible refine nN_h rfl ?_ | with_reducible refine V.needI ?_ ?_)
      all_goals try first
        | trivial
        | omega
        | exact fun i _ => ⟨Nat.zero_le _, Nat.zero_le _⟩
        | exact pijI (H := hIh b) rfl hH
        | exact ⟨pijI (H := hIh b) rfl hH, by omega, by omega⟩
        | exact ⟨_, rfl⟩
        | exact ⟨(_, _), rfl, Nat.le_refl _⟩
        | exact ⟨_, Nat.le_refl _⟩
        | exact ⟨(0, 0, _), rfl⟩
        | exact ex_b
        | exact ⟨Nat.le_refl _, by assumption⟩
        | (simp only [Int.ofNat_eq_natCast, Int.natCast_zero, Int.natCast_one]; omega)
      all_goals try exact hpre rfl
      refine V.anyI fun c1 hc1 => ?_
      (repeat' first | with_reducible exact V.okI | with_reducible refine nN_h rfl ?_ | with_reducible refine V.needI ?_ ?_)
      all_goals try first
        | trivial
        | omega
        | exact fun i _ => ⟨Nat.zero_le _, Nat.zero_le _⟩
        | exact pijI (H := hIh b) rfl hH
        | exact ⟨pijI (H := hIh b) rfl hH, by omega, by omega⟩
        | exact ⟨_, rfl⟩
        | exact ⟨(_, _), rfl, Nat.le_refl _⟩
        | exact ⟨_, Nat.le_refl _⟩
        | exact ⟨(0, 0, _), rfl⟩
        | exact ex_b
        | exact ⟨Nat.le_refl _, by assumption⟩
        | (simp only [Int.ofNat_eq_natCast, Int.natCast_zero, Int.natCast_one]; omega)
      refine V.anyI fun b1 hb1 => V.brI (fun h => (bad_b hb1 hP h).elim) fun _ => ?_
      (repeat' first | with_reducible exact V.okI | with_reducible refine nN_h rfl ?_ | with_reducible refine V.needI ?_ ?_)
      all_goals try first
        | trivial
        | omega
        | exact fun i _ => ⟨Nat.zero_le _, Nat.zero_le _⟩
        | exact pijI (H := hIh b) rfl hH
        | exact ⟨pijI (H := hIh b) rfl hH, by omega, by omega⟩
        | exact ⟨_, rfl⟩
        | exact ⟨(_, _), rfl, Nat.le_refl _⟩
        | exact ⟨_, Nat.le_refl _⟩
        | exact ⟨(0, 0, _), rfl⟩
        | exact ex_b
        | exact ⟨Nat.le_refl _, by assumption⟩
        | (simp only [Int.ofNat_eq_natCast, Int.natCast_zero, Int.natCast_one]; omega)
      all_goals first
        | exact ⟨by omega, by omega, by omega, Nat.le_refl _, g2, by rw [F3]; exact o6, fun j hj => absurd hj (Nat.not_lt_zero _), fun j hj => absurd hj (Nat.not_lt_zero _), by rw [F2]; omega, hnc⟩
        | skip
    · have c0 : x.n ≠ 0 := fun e => (of_decide_eq_false c0) (by rw [e]; rfl)
      obtain ⟨N, hN⟩ : ∃ N, x.n = N + 1 := ⟨x.n - 1, by omega⟩
      obtain ⟨F1, F2, F3, F4, F5, F6⟩ := ihSome (l := x.l) (w := 0) (N := N) (a := x.a) hH' hn' (by rw [o5, hN]) (by rw [hY]; omega) (fun j hj => o7 j (by omega))
      rw [← hR] at F1 F2 F3 F4 F5 F6
      clear hR
      have F1 : R.c = Int.ofNat 1 := F1
      have hpre : ∀ {c : Cf}, c.H = hIh b → preSl c n R.m := fun h => preI h hH hn F4 (by omega)
      (repeat' first | with_reducible exact V.okI | with_reducible refine nN_h rfl ?_ | with_reducible refine V.needI ?_ ?_)
      all_goals try first
        | trivial
        | omega
        | exact fun i _ => ⟨Nat.zero_le _, Nat.zero_le _⟩
        | exact pijI (H := hIh b) rfl hH
        | exact ⟨pijI (H := hIh b) rfl hH, by omega, by omega⟩
        | exact ⟨_, rfl⟩
        | exact ⟨(_, _), rfl, Nat.le_refl _⟩
        | exact ⟨_, Nat.le_refl _⟩
        | exact ⟨(0, 0, _), rfl⟩
        | exact ex_b
        | exact ⟨Nat.le_refl _, by assumption⟩
        | (simp only [Int.ofNat_eq_natCast, Int.natCast_zero, Int.natCast_one]; omega)
      refine V.brI (fun c1 => ?_) fun c1 => ?_
      · have c1 : N = 0 := by have h : (x.n : Int) = (1 : Int) := of_decide_eq_true c1; omega
        have F4 : R.m.g 2 = ((0 : Nat) : Int) := by rw [F4, c1]
        have hP : cntS (hIh b) (R.m.g 2) = 0 ∧ ∀ j, j < cntS (hIh b) (R.m.g 2) → R.m.g (4 + j) = Int.ofNat 0 := by
          rw [cnt_e F4 (by omega)]
          exact ⟨rfl, fun j hj => absurd hj (Nat.not_lt_zero _)⟩
        (repeat' first | with_reducible exact V.okI | with_reducible refine nN_h rfl ?_ | with_reducible refine V.needI ?_ ?_)
        all_goals try first
          | trivial
          | omega
          | exact fun i _ => ⟨Nat.zero_le _, Nat.zero_le _⟩
          | exact pijI (H := hIh b) rfl hH
          | exact ⟨pijI (H := hIh b) rfl hH, by omega, by omega⟩
          | exact ⟨_, rfl⟩
          | exact ⟨(_, _), rfl, Nat.le_refl _⟩
          | exact ⟨_, Nat.le_refl _⟩
          | exact ⟨(0, 0, _), rfl⟩
          | exact ex_b
          | exact ⟨Nat.le_refl _, by assumption⟩
          | (simp only [Int.ofNat_eq_natCast, Int.natCast_zero, Int.natCast_one]; omega)
        all_goals try exact o8 0 (by omega)
        refine V.anyI fun p hp => ?_
        (repeat' first | with_reducible exact V.okI | with_reducible refine nN_h rfl ?_ | with_reducible refine V.needI ?_ ?_)
        all_goals try first
          | trivial
          | omega
          | exact fun i _ => ⟨Nat.zero_le _, Nat.zero_le _⟩
          | exact pijI (H := hIh b) rfl hH
          | exact ⟨pijI (H := hIh b) rfl hH, by omega, by omega⟩
          | exact ⟨_, rfl⟩
          | exact ⟨(_, _), rfl, Nat.le_refl _⟩
          | exact ⟨_, Nat.le_refl _⟩
          | exact ⟨(0, 0, _), rfl⟩
          | exact ex_b
          | exact ⟨Nat.le_refl _, by assumption⟩
          | (simp only [Int.ofNat_eq_natCast, Int.natCast_zero, Int.natCast_one]; omega)
        refine V.brI (fun h => (c1n F1 h).elim) fun _ => ?_
        (repeat' first | with_reducible exact V.okI | with_reducible refine nN_h rfl ?_ | with_reducible refine V.needI ?_ ?_)
        all_goals try first
          | trivial
          | omega
          | exact fun i _ => ⟨Nat.zero_le _, Nat.zero_le _⟩
          | exact pijI (H := hIh b) rfl hH
          | exact ⟨pijI (H := hIh b) rfl hH, by omega, by omega⟩
          | exact ⟨_, rfl⟩
          | exact ⟨(_, _), rfl, Nat.le_refl _⟩
          | exact ⟨_, Nat.le_refl _⟩
          | exact ⟨(0, 0, _), rfl⟩
          | exact ex_b
          | exact ⟨Nat.le_refl _, by assumption⟩
          | (simp only [Int.ofNat_eq_natCast, Int.natCast_zero, Int.natCast_one]; omega)
        refine V.brI (fun h => (cne (F2.trans hp.symm) h).elim) fun _ => ?_
        (repeat' first | with_reducible exact V.okI | with_reducible refine nN_h rfl ?_ | with_reducible refine V.needI ?_ ?_)
        all_goals try first
          | trivial
          | omega
          | exact fun i _ => ⟨Nat.zero_le _, Nat.zero_le _⟩
          | exact pijI (H := hIh b) rfl hH
          | exact ⟨pijI (H := hIh b) rfl hH, by omega, by omega⟩
          | exact ⟨_, rfl⟩
          | exact ⟨(_, _), rfl, Nat.le_refl _⟩
          | exact ⟨_, Nat.le_refl _⟩
          | exact ⟨(0, 0, _), rfl⟩
          | exact ex_b
          | exact ⟨Nat.le_refl _, by assumption⟩
          | (simp only [Int.ofNat_eq_natCast, Int.natCast_zero, Int.natCast_one]; omega)
        refine V.brI (fun h => (cne F1 h).elim) fun _ => ?_
        (repeat' first | with_reducible exact V.okI | with_reducible refine nN_h rfl ?_ | with_reducible refine V.needI ?_ ?_)
        all_goals try first
          | trivial
          | omega
          | exact fun i _ => ⟨Nat.zero_le _, Nat.zero_le _⟩
          | exact pijI (H := hIh b) rfl hH
          | exact ⟨pijI (H := hIh b) rfl hH, by omega, by omega⟩
          | exact ⟨_, rfl⟩
          | exact ⟨(_, _), rfl, Nat.le_refl _⟩
          | exact ⟨_, Nat.le_refl _⟩
          | exact ⟨(0, 0, _), rfl⟩
          | exact ex_b
          | exact ⟨Nat.le_refl _, by assumption⟩
          | (simp only [Int.ofNat_eq_natCast, Int.natCast_zero, Int.natCast_one]; omega)
        all_goals try exact hpre rfl
        refine V.anyI fun c1 hc1 => ?_
        (repeat' first | with_reducible exact V.okI | with_reducible refine nN_h rfl ?_ | with_reducible refine V.needI ?_ ?_)
        all_goals try first
          | trivial
          | omega
          | exact fun i _ => ⟨Nat.zero_le _, Nat.zero_le _⟩
          | exact pijI (H := hIh b) rfl hH
          | exact ⟨pijI (H := hIh b) rfl hH, by omega, by omega⟩
          | exact ⟨_, rfl⟩
          | exact ⟨(_, _), rfl, Nat.le_refl _⟩
          | exact ⟨_, Nat.le_refl _⟩
          | exact ⟨(0, 0, _), rfl⟩
          | exact ex_b
          | exact ⟨Nat.le_refl _, by assumption⟩
          | (simp only [Int.ofNat_eq_natCast, Int.natCast_zero, Int.natCast_one]; omega)
        refine V.anyI fun b1 hb1 => V.brI (fun h => (bad_b hb1 hP h).elim) fun _ => ?_
        (repeat' first | with_reducible exact V.okI | with_reducible refine nN_h rfl ?_ | with_reducible refine V.needI ?_ ?_)
        all_goals try first
          | trivial
          | omega
          | exact fun i _ => ⟨Nat.zero_le _, Nat.zero_le _⟩
          | exact pijI (H := hIh b) rfl hH
          | exact ⟨pijI (H := hIh b) rfl hH, by omega, by omega⟩
          | exact ⟨_, rfl⟩
          | exact ⟨(_, _), rfl, Nat.le_refl _⟩
          | exact ⟨_, Nat.le_refl _⟩
          | exact ⟨(0, 0, _), rfl⟩
          | exact ex_b
          | exact ⟨Nat.le_refl _, by assumption⟩
          | (simp only [Int.ofNat_eq_natCast, Int.natCast_zero, Int.natCast_one]; omega)
        all_goals first
          | exact ⟨by omega, by omega, by omega, Nat.le_refl _, F4, by rw [F5]; exact o6, fun j hj => absurd hj (Nat.not_lt_zero _), fun j hj => absurd hj (Nat.not_lt_zero _), by rw [F3]; omega, hnc⟩
          | skip
      · have hn1 : x.n - 1 = N := by omega
        simp only [hn1]
        have hP : cntS (hIh b) (R.m.g 2) = N ∧ ∀ j, j < cntS (hIh b) (R.m.g 2) → R.m.g (4 + j) = dnM N (x.a N) N 0 x.a j := by
          rw [cnt_e F4 (by omega)]
          exact ⟨rfl, fun j hj => (F6 j hj).symm⟩
        (repeat' first | with_reducible exact V.okI | with_reducible refine nN_h rfl ?_ | with_reducible refine V.needI ?_ ?_)
        all_goals try first
          | trivial
          | omega
          | exact fun i _ => ⟨Nat.zero_le _, Nat.zero_le _⟩
          | exact pijI (H := hIh b) rfl hH
          | exact ⟨pijI (H := hIh b) rfl hH, by omega, by omega⟩
          | exact ⟨_, rfl⟩
          | exact ⟨(_, _), rfl, Nat.le_refl _⟩
          | exact ⟨_, Nat.le_refl _⟩
          | exact ⟨(0, 0, _), rfl⟩
          | exact ex_b
          | exact ⟨Nat.le_refl _, by assumption⟩
          | (simp only [Int.ofNat_eq_natCast, Int.natCast_zero, Int.natCast_one]; omega)
        refine V.anyI fun cp hcp => ?_
        (repeat' first | with_reducible exact V.okI | with_reducible refine nN_h rfl ?_ | with_reducible refine V.needI ?_ ?_)
        all_goals try first
          | trivial
          | omega
          | exact fun i _ => ⟨Nat.zero_le _, Nat.zero_le _⟩
          | exact pijI (H := hIh b) rfl hH
          | exact ⟨pijI (H := hIh b) rfl hH, by omega, by omega⟩
          | exact ⟨_, rfl⟩
          | exact ⟨(_, _), rfl, Nat.le_refl _⟩
          | exact ⟨_, Nat.le_refl _⟩
          | exact ⟨(0, 0, _), rfl⟩
          | exact ex_b
          | exact ⟨Nat.le_refl _, by assumption⟩
          | (simp only [Int.ofNat_eq_natCast, Int.natCast_zero, Int.natCast_one]; omega)
        all_goals try exact o8 0 (by omega)
        refine V.anyI fun p hp => ?_
        (repeat' first | with_reducible exact V.okI | with_reducible refine nN_h rfl ?_ | with_reducible refine V.needI ?_ ?_)
        all_goals try first
          | trivial
          | omega
          | exact fun i _ => ⟨Nat.zero_le _, Nat.zero_le _⟩
          | exact pijI (H := hIh b) rfl hH
          | exact ⟨pijI (H := hIh b) rfl hH, by omega, by omega⟩
          | exact ⟨_, rfl⟩
          | exact ⟨(_, _), rfl, Nat.le_refl _⟩
          | exact ⟨_, Nat.le_refl _⟩
          | exact ⟨(0, 0, _), rfl⟩
          | exact ex_b
          | exact ⟨Nat.le_refl _, by assumption⟩
          | (simp only [Int.ofNat_eq_natCast, Int.natCast_zero, Int.natCast_one]; omega)
        refine V.brI (fun h => (c1n F1 h).elim) fun _ => ?_
        (repeat' first | with_reducible exact V.okI | with_reducible refine nN_h rfl ?_ | with_reducible refine V.needI ?_ ?_)
        all_goals try first
          | trivial
          | omega
          | exact fun i _ => ⟨Nat.zero_le _, Nat.zero_le _⟩
          | exact pijI (H := hIh b) rfl hH
          | exact ⟨pijI (H := hIh b) rfl hH, by omega, by omega⟩
          | exact ⟨_, rfl⟩
          | exact ⟨(_, _), rfl, Nat.le_refl _⟩
          | exact ⟨_, Nat.le_refl _⟩
          | exact ⟨(0, 0, _), rfl⟩
          | exact ex_b
          | exact ⟨Nat.le_refl _, by assumption⟩
          | (simp only [Int.ofNat_eq_natCast, Int.natCast_zero, Int.natCast_one]; omega)
        refine V.brI (fun h => (cne (F2.trans hp.symm) h).elim) fun _ => ?_
        (repeat' first | with_reducible exact V.okI | with_reducible refine nN_h rfl ?_ | with_reducible refine V.needI ?_ ?_)
        all_goals try first
          | trivial
          | omega
          | exact fun i _ => ⟨Nat.zero_le _, Nat.zero_le _⟩
          | exact pijI (H := hIh b) rfl hH
          | exact ⟨pijI (H := hIh b) rfl hH, by omega, by omega⟩
          | exact ⟨_, rfl⟩
          | exact ⟨(_, _), rfl, Nat.le_refl _⟩
          | exact ⟨_, Nat.le_refl _⟩
          | exact ⟨(0, 0, _), rfl⟩
          | exact ex_b
          | exact ⟨Nat.le_refl _, by assumption⟩
          | (simp only [Int.ofNat_eq_natCast, Int.natCast_zero, Int.natCast_one]; omega)
        refine V.brI (fun h => (cne F1 h).elim) fun _ => ?_
        (repeat' first | with_reducible exact V.okI | with_reducible refine nN_h rfl ?_ | with_reducible refine V.needI ?_ ?_)
        all_goals try first
          | trivial
          | omega
          | exact fun i _ => ⟨Nat.zero_le _, Nat.zero_le _⟩
          | exact pijI (H := hIh b) rfl hH
          | exact ⟨pijI (H := hIh b) rfl hH, by omega, by omega⟩
          | exact ⟨_, rfl⟩
          | exact ⟨(_, _), rfl, Nat.le_refl _⟩
          | exact ⟨_, Nat.le_refl _⟩
          | exact ⟨(0, 0, _), rfl⟩
          | exact ex_b
          | exact ⟨Nat.le_refl _, by assumption⟩
          | (simp only [Int.ofNat_eq_natCast, Int.natCast_zero, Int.natCast_one]; omega)
        all_goals try exact hpre rfl
        refine V.anyI fun c1 hc1 => ?_
        (repeat' first | with_reducible exact V.okI | with_reducible refine nN_h rfl ?_ | with_reducible refine V.needI ?_ ?_)
        all_goals try first
          | trivial
          | omega
          | exact fun i _ => ⟨Nat.zero_le _, Nat.zero_le _⟩
          | exact pijI (H := hIh b) rfl hH
          | exact ⟨pijI (H := hIh b) rfl hH, by omega, by omega⟩
          | exact ⟨_, rfl⟩
          | exact ⟨(_, _), rfl, Nat.le_refl _⟩
          | exact ⟨_, Nat.le_refl _⟩
          | exact ⟨(0, 0, _), rfl⟩
          | exact ex_b
          | exact ⟨Nat.le_refl _, by assumption⟩
          | (simp only [Int.ofNat_eq_natCast, Int.natCast_zero, Int.natCast_one]; omega)
        refine V.anyI fun b1 hb1 => V.brI (fun h => (bad_b hb1 hP h).elim) fun _ => ?_
        (repeat' first | with_reducible exact V.okI | with_reducible refine nN_h rfl ?_ | with_reducible refine V.needI ?_ ?_)
        all_goals try first
          | trivial
          | omega
          | exact fun i _ => ⟨Nat.zero_le _, Nat.zero_le _⟩
          | exact pijI (H := hIh b) rfl hH
          | exact ⟨pijI (H := hIh b) rfl hH, by omega, by omega⟩
          | exact ⟨_, rfl⟩
          | exact ⟨(_, _), rfl, Nat.le_refl _⟩
          | exact ⟨_, Nat.le_refl _⟩
          | exact ⟨(0, 0, _), rfl⟩
          | exact ex_b
          | exact ⟨Nat.le_refl _, by assumption⟩
          | (simp only [Int.ofNat_eq_natCast, Int.natCast_zero, Int.natCast_one]; omega)
        all_goals first
          | exact ⟨by omega, by omega, by omega, hcp, F4, by rw [F5]; exact o6, F6, fun j hj => dn_ok (p := u64p) (fun z hz hne => o8 z (by omega)) (o8 N (by omega)) j hj, by rw [F3]; omega, hnc⟩
          | skip
theorem w16 {n : Int} (h : (Lit.int .u16 n).wf = true) : 0 ≤ n ∧ n ≤ 65535 := by
  simp [Lit.wf, IntKind.min, IntKind.max, IntKind.bits, IntKind.signed] at h; omega
theorem walkIh (b : Int) (a : Option Addr) (len cap : Nat) (g : Nat → Int) (W : World) (hb : (Lit.int .u8 b).wf = true) (h : IsInts .u16 W a len cap g) :
    Calls P 10 #[.int .u8 b, .slice a len cap] W fun e w' => e = .returned (.bool true) ∧ Below W.heap.size W w' := by
  refine calls_yesV (vs := [.int .u8 b, .slice a len cap]) conIh_ok (ρ := fun k i => if k = 0 ∧ i = 0 then addr0 a else none) (vhIh (u8i hb) (fun e he => w16 (h.fits e he))) (views_inv fun k b hk => ?_) ⟨fun _ _ => rfl, h.val (by simp) ⟨Nat.le_of_ble_eq_true rfl, trivial⟩, trivial⟩
  rw [find_cons] at hk
  split at hk
  · rename_i e; subst e
    cases hk
    exact ⟨rfl, by decide, h.sat (by simp)⟩
  · cases hk
end Go.Proofs.Ytomaagmleafjeaa.Md
