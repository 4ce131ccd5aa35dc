/- TakeAll: the conditions, printed by program. -/
import Derived.Test.YtomaagmleafjeaaMMdTlD
import Derived.Test.YtomaagmleafjeaaMW
import Derived.Test.YtomaagmleafjeaaMV
import Derived.Test.YtomaagmleafjeaaMMdTaE
set_option linter.unusedVariables false
set_option linter.unusedSimpArgs false
set_option linter.unusedVariables false
set_option maxRecDepth 100000
namespace Go.Proofs.Ytomaagmleafjeaa.Md
open Go Go.RowKit Sx Cn Dc Ck Vc

set_option maxHeartbeats 8000000 in
theorem verTl_eq (g s : Nat → Int) (lg cg ls cs : Nat) (I1 : XTl → Prop) (I2 : Int → Prop) (I3 : Int → XTc → Prop) : V.pr .z (verTl g s lg cg ls cs I1 I2 I3) =
  nN [qE lg, qE cg, qE ls, qE cs, (1, .le 1 1), (1, .pf (∀ (i : Nat), i < 1 → lg ≤ lg) (by intros; exact Nat.le_refl _)), (1, .pf (∀ (i e : Nat), i < 1 ∧ e < lg → g e = g e) (by intros; rfl)), (1, .le 1 1), (1, .pf (∀ (i : Nat), i < 1 → ls ≤ ls) (by intros; exact Nat.le_refl _)), (1, .pf (∀ (i e : Nat), i < 1 ∧ e < ls → s e = s e) (by intros; rfl))]
    (V.need True
    (V.need (∃ (x : XLa), φLa g s lg ls x)
    (V.any XLa (φLa g s lg ls) fun (x : XLa) => V.need True
    (V.need ((U8 0 fun (x : Nat) => Int.ofNat 0) ∧ 0 ≤ 9)
    (V.need (∃ (x : Nat × Nat × (Nat → Nat)), 1 ≤ x.fst)
    (V.any (Nat × Nat × (Nat → Nat)) (fun (x : Nat × Nat × (Nat → Nat)) => 1 ≤ x.fst) fun (x_1 : Nat × Nat × (Nat → Nat)) => V.need (I1 (XTl.mk (Int.ofNat 0) x.m (El.mk 0 (Evs.mk (fun (i : Nat) => Int.ofNat 0) (fun (i : Nat) => Int.ofNat 0) (fun (i : Nat) => Int.ofNat 0) (fun (i : Nat) => Int.ofNat 0) fun (i : Nat) => Int.ofNat 0)) 0 (fun (i : Nat) => false) fun (i : Nat) => Int.ofNat 0))
    (nN [(1, .eqI 0 0), qE x.m.lk, qE x.m.lc, qE x.m.lo, qE x.m.ln, qE x.m.ct, (1, .eq 83 83), (1, .le 83 83), qF 83 x.m.g, qE x.rc, (3, .eq 0 0), (1, .le 0 0), qF 0 (fun (e : Nat) => Int.ofNat 0), qF 0 (fun (e : Nat) => Int.ofNat 0), qF 0 (fun (e : Nat) => Int.ofNat 0), qF 0 (fun (e : Nat) => Int.ofNat 0), qF 0 (fun (e : Nat) => Int.ofNat 0), qE x.rc, (1, .le 9 9), qF 9 (fun (e : Nat) => false), (1, .eq 9 9), (1, .le 9 9), qF 9 (fun (e : Nat) => Int.ofNat 0)]
    (V.any XTl I1 fun (x_2 : XTl) => V.br (decide (x_2.i < Int.ofNat 30))
    (V.need (Int.ofNat 600 = (↑600 : Int))
    (nN [(1, .eqI 1 1), (1, .eqI 3 3), (1, .eqI 1 1), (1, .eqI 9 9), (1, .eqI 8 8), (1, .eqI 1 1), (1, .eqI 5 5), (1, .eqI 6 6), (1, .eqI 7 7), (1, .eqI 8 8), (1, .eqI 38 38), (1, .eq 9 9), qE x.rc, qE x_2.l.n, qE x_2.nc, qE x_2.m.lk, qE x_2.m.lc, qE x_2.m.lo, qE x_2.m.ln, qE x_2.m.ct, (1, .eq 83 83), (1, .le 83 83), qF 83 x_2.m.g, (1, .eqI 0 0), qE x_2.nc, qL x_2.l.n, qF x_2.l.n x_2.l.v.k, qF x_2.l.n x_2.l.v.w, qF x_2.l.n x_2.l.v.t, qF x_2.l.n x_2.l.v.o, qF x_2.l.n x_2.l.v.l, (2, .eqI 0 0), qE x.rc, (1, .le 9 9), qF 9 x_2.st]
    (V.need (preTa (Ly.mk (Int.ofNat 1) (Int.ofNat 3) (Int.ofNat 1) (Int.ofNat 9) (Int.ofNat 8) (Int.ofNat 1) (Int.ofNat 5) (Int.ofNat 6) (Int.ofNat 7) (Int.ofNat 8) (Int.ofNat 38)) 83 (Int.ofNat 0) 9 600 x_2.m x_2.l x_2.nc fun (e : Nat) => x_2.st e)
    (V.need (∃ (x : Rt × Nat), φTa (Ly.mk (Int.ofNat 1) (Int.ofNat 3) (Int.ofNat 1) (Int.ofNat 9) (Int.ofNat 8) (Int.ofNat 1) (Int.ofNat 5) (Int.ofNat 6) (Int.ofNat 7) (Int.ofNat 8) (Int.ofNat 38)) 83 (Int.ofNat 0) 9 600 x_2.m x_2.l x_2.st x)
    (V.any (Rt × Nat) (φTa (Ly.mk (Int.ofNat 1) (Int.ofNat 3) (Int.ofNat 1) (Int.ofNat 9) (Int.ofNat 8) (Int.ofNat 1) (Int.ofNat 5) (Int.ofNat 6) (Int.ofNat 7) (Int.ofNat 8) (Int.ofNat 38)) 83 (Int.ofNat 0) 9 600 x_2.m x_2.l fun (e : Nat) => x_2.st e) fun (x_3 : Rt × Nat) => V.br (x_3.fst.r.c != Int.ofNat 1)
    (V.need (I2 (Int.ofNat 0))
    (nN [(1, .eqI 0 0)]
    (V.any Int I2 fun (x : Int) => nN [(2, .lt2 0 1 0 1)]
    (V.br (decide (x < Int.ofNat 9))
    (V.need (I3 x (XTc.mk (Int.ofNat 0) false fun (i : Nat) => numAt [SC.ki IntKind.i64 (Int.ofNat 0), SC.ki IntKind.i64 (Int.ofNat 0), SC.ki IntKind.i64 (Int.ofNat 0)] i))
    (nN [(1, .eqI 0 0), qE false, (1, .eq 3 3), (1, .le 3 3)]
    (V.need (∀ (e : Nat), e < 3 → e < 3)
    (V.need (∀ (e : Nat), e < 3 → e = 0 → Int.ofNat 0 = numAt [SC.ki IntKind.i64 (Int.ofNat 0), SC.ki IntKind.i64 (Int.ofNat 0), SC.ki IntKind.i64 (Int.ofNat 0)] e)
    (V.need (∀ (e : Nat), e < 3 → e = 1 → Int.ofNat 0 = numAt [SC.ki IntKind.i64 (Int.ofNat 0), SC.ki IntKind.i64 (Int.ofNat 0), SC.ki IntKind.i64 (Int.ofNat 0)] e)
    (V.need (∀ (e : Nat), e < 3 → e = 2 → Int.ofNat 0 = numAt [SC.ki IntKind.i64 (Int.ofNat 0), SC.ki IntKind.i64 (Int.ofNat 0), SC.ki IntKind.i64 (Int.ofNat 0)] e)
    (V.any XTc (I3 x) fun (x_4 : XTc) => V.br (decide (x_4.i < (↑lg : Int)))
    (V.br (decide (x_4.i < Int.ofNat 16))
    (V.need (Int.ofNat 0 ≤ x_4.i ∧ x_4.i < (↑lg : Int))
    (V.need (0 < 1 ∧ 0 + x_4.i.toNat < lg)
    (V.need (0 < 1 ∧ 0 + x_4.i.toNat < lg)
    (nN [(1, .neI 3 0)]
    (V.need (Int.ofNat 0 ≤ (g (0 + x_4.i.toNat)).tmod (Int.ofNat 3) ∧ (g (0 + x_4.i.toNat)).tmod (Int.ofNat 3) < (↑3 : Int))
    (nN [(1, .lt 0 3)]
    (V.need (((g (0 + x_4.i.toNat)).tmod (Int.ofNat 3)).toNat < 3)
    (V.need (Int.ofNat 0 ≤ (g (0 + x_4.i.toNat)).tmod (Int.ofNat 3) ∧ (g (0 + x_4.i.toNat)).tmod (Int.ofNat 3) < (↑3 : Int))
    (nN [(1, .lt 0 3)]
    (V.need (((g (0 + x_4.i.toNat)).tmod (Int.ofNat 3)).toNat < 3)
    (V.br x_4.h
    (V.need (I3 x (XTc.mk (IntKind.i64.wrap (x_4.i + Int.ofNat 1)) true fun (i : Nat) => if 0 = 0 ∧ i = ((g (0 + x_4.i.toNat)).tmod (Int.ofNat 3)).toNat then IntKind.i64.wrap (x_4.c ((g (0 + x_4.i.toNat)).tmod (Int.ofNat 3)).toNat + Int.ofNat 1) else x_4.c i))
    (V.need ((Int.ofNat 16 - IntKind.i64.wrap (x_4.i + Int.ofNat 1)).toNat < (Int.ofNat 16 - x_4.i).toNat)
    (nN [qE (IntKind.i64.wrap (x_4.i + Int.ofNat 1)), qE true, (1, .eq 3 3), (1, .le 3 3)]
    (V.need (∀ (e : Nat), e < 3 → (if 0 = 0 ∧ e = ((g (0 + x_4.i.toNat)).tmod (Int.ofNat 3)).toNat then IntKind.i64.wrap (x_4.c ((g (0 + x_4.i.toNat)).tmod (Int.ofNat 3)).toNat + Int.ofNat 1) else x_4.c e) = if 0 = 0 ∧ e = ((g (0 + x_4.i.toNat)).tmod (Int.ofNat 3)).toNat then IntKind.i64.wrap (x_4.c ((g (0 + x_4.i.toNat)).tmod (Int.ofNat 3)).toNat + Int.ofNat 1) else x_4.c e) V.ok))))
    (V.need (Int.ofNat 0 ≤ (g (0 + x_4.i.toNat)).tmod (Int.ofNat 3) ∧ (g (0 + x_4.i.toNat)).tmod (Int.ofNat 3) < (↑3 : Int))
    (nN [(1, .lt2 0 1 0 3)]
    (V.need (0 < 1 ∧ ((g (0 + x_4.i.toNat)).tmod (Int.ofNat 3)).toNat < 3)
    (nN [(2, .lt2 0 1 0 1)]
    (V.br (decide ((if 0 = 0 ∧ ((g (0 + x_4.i.toNat)).tmod (Int.ofNat 3)).toNat = ((g (0 + x_4.i.toNat)).tmod (Int.ofNat 3)).toNat then IntKind.i64.wrap (x_4.c ((g (0 + x_4.i.toNat)).tmod (Int.ofNat 3)).toNat + Int.ofNat 1) else x_4.c ((g (0 + x_4.i.toNat)).tmod (Int.ofNat 3)).toNat) ≤ Int.ofNat 8))
    (V.need (Int.ofNat 0 ≤ x_4.i ∧ x_4.i < (↑lg : Int))
    (V.need (0 < 1 ∧ 0 + x_4.i.toNat < lg)
    (V.need (0 < 1 ∧ 0 + x_4.i.toNat < lg)
    (nN [(1, .neI 3 0), (1, .neI 9 0)]
    (V.need (I3 x (XTc.mk (IntKind.i64.wrap (x_4.i + Int.ofNat 1)) (IntKind.i64.wrap ((IntKind.u8.wrap ((g (0 + x_4.i.toNat)).tdiv (Int.ofNat 3))).tmod (Int.ofNat 9)) == x) fun (i : Nat) => if 0 = 0 ∧ i = ((g (0 + x_4.i.toNat)).tmod (Int.ofNat 3)).toNat then IntKind.i64.wrap (x_4.c ((g (0 + x_4.i.toNat)).tmod (Int.ofNat 3)).toNat + Int.ofNat 1) else x_4.c i))
    (V.need ((Int.ofNat 16 - IntKind.i64.wrap (x_4.i + Int.ofNat 1)).toNat < (Int.ofNat 16 - x_4.i).toNat)
    (nN [qE (IntKind.i64.wrap (x_4.i + Int.ofNat 1)), qE ((IntKind.i64.wrap ((IntKind.u8.wrap ((g (0 + x_4.i.toNat)).tdiv (Int.ofNat 3))).tmod (Int.ofNat 9)) == x)), (1, .eq 3 3), (1, .le 3 3)]
    (V.need (∀ (e : Nat), e < 3 → (if 0 = 0 ∧ e = ((g (0 + x_4.i.toNat)).tmod (Int.ofNat 3)).toNat then IntKind.i64.wrap (x_4.c ((g (0 + x_4.i.toNat)).tmod (Int.ofNat 3)).toNat + Int.ofNat 1) else x_4.c e) = if 0 = 0 ∧ e = ((g (0 + x_4.i.toNat)).tmod (Int.ofNat 3)).toNat then IntKind.i64.wrap (x_4.c ((g (0 + x_4.i.toNat)).tmod (Int.ofNat 3)).toNat + Int.ofNat 1) else x_4.c e) V.ok))))))))
    (V.need (I3 x (XTc.mk (IntKind.i64.wrap (x_4.i + Int.ofNat 1)) false fun (i : Nat) => if 0 = 0 ∧ i = ((g (0 + x_4.i.toNat)).tmod (Int.ofNat 3)).toNat then IntKind.i64.wrap (x_4.c ((g (0 + x_4.i.toNat)).tmod (Int.ofNat 3)).toNat + Int.ofNat 1) else x_4.c i))
    (V.need ((Int.ofNat 16 - IntKind.i64.wrap (x_4.i + Int.ofNat 1)).toNat < (Int.ofNat 16 - x_4.i).toNat)
    (nN [qE (IntKind.i64.wrap (x_4.i + Int.ofNat 1)), qE false, (1, .eq 3 3), (1, .le 3 3)]
    (V.need (∀ (e : Nat), e < 3 → (if 0 = 0 ∧ e = ((g (0 + x_4.i.toNat)).tmod (Int.ofNat 3)).toNat then IntKind.i64.wrap (x_4.c ((g (0 + x_4.i.toNat)).tmod (Int.ofNat 3)).toNat + Int.ofNat 1) else x_4.c e) = if 0 = 0 ∧ e = ((g (0 + x_4.i.toNat)).tmod (Int.ofNat 3)).toNat then IntKind.i64.wrap (x_4.c ((g (0 + x_4.i.toNat)).tmod (Int.ofNat 3)).toNat + Int.ofNat 1) else x_4.c e) V.ok))))))))))))))))))))
    (V.br x_4.h
    (V.br (decide (x < (↑ls : Int)))
    (V.need (Int.ofNat 0 ≤ x ∧ x < (↑ls : Int))
    (V.need (0 < 1 ∧ 0 + x.toNat < ls)
    (V.need (0 < 1 ∧ 0 + x.toNat < ls)
    (nN [(1, .neI 5 0)]
    (V.br ((s (0 + x.toNat)).tmod (Int.ofNat 5) == Int.ofNat 1)
    (V.need (Int.ofNat 0 ≤ x ∧ x < (↑9 : Int))
    (V.need (0 < 1 ∧ 0 + x.toNat < 9)
    (V.need (0 < 1 ∧ 0 + x.toNat < 9)
    (V.br (x_2.cl (0 + x.toNat) != Int.ofNat 1)
    (V.bad 420)
    (V.need (I2 (IntKind.i64.wrap (x + Int.ofNat 1)))
    (V.need ((Int.ofNat 9 - IntKind.i64.wrap (x + Int.ofNat 1)).toNat < (Int.ofNat 9 - x).toNat)
    (nN [qE (IntKind.i64.wrap (x + Int.ofNat 1))] V.ok)))))))
    (V.need (Int.ofNat 0 ≤ x ∧ x < (↑9 : Int))
    (V.need (0 < 1 ∧ 0 + x.toNat < 9)
    (V.need (0 < 1 ∧ 0 + x.toNat < 9)
    (V.br (x_2.cl (0 + x.toNat) != Int.ofNat 0)
    (V.bad 420)
    (V.need (I2 (IntKind.i64.wrap (x + Int.ofNat 1)))
    (V.need ((Int.ofNat 9 - IntKind.i64.wrap (x + Int.ofNat 1)).toNat < (Int.ofNat 9 - x).toNat)
    (nN [qE (IntKind.i64.wrap (x + Int.ofNat 1))] V.ok))))))))))))
    (V.need (Int.ofNat 0 ≤ x ∧ x < (↑9 : Int))
    (V.need (0 < 1 ∧ 0 + x.toNat < 9)
    (V.need (0 < 1 ∧ 0 + x.toNat < 9)
    (V.br (x_2.cl (0 + x.toNat) != Int.ofNat 0)
    (V.bad 420)
    (V.need (I2 (IntKind.i64.wrap (x + Int.ofNat 1)))
    (V.need ((Int.ofNat 9 - IntKind.i64.wrap (x + Int.ofNat 1)).toNat < (Int.ofNat 9 - x).toNat)
    (nN [qE (IntKind.i64.wrap (x + Int.ofNat 1))] V.ok))))))))
    (V.need (Int.ofNat 0 ≤ x ∧ x < (↑9 : Int))
    (V.need (0 < 1 ∧ 0 + x.toNat < 9)
    (V.need (0 < 1 ∧ 0 + x.toNat < 9)
    (V.br (x_2.cl (0 + x.toNat) != Int.ofNat 0)
    (V.bad 420)
    (V.need (I2 (IntKind.i64.wrap (x + Int.ofNat 1)))
    (V.need ((Int.ofNat 9 - IntKind.i64.wrap (x + Int.ofNat 1)).toNat < (Int.ofNat 9 - x).toNat)
    (nN [qE (IntKind.i64.wrap (x + Int.ofNat 1))] V.ok)))))))))
    (V.br x_4.h
    (V.br (decide (x < (↑ls : Int)))
    (V.need (Int.ofNat 0 ≤ x ∧ x < (↑ls : Int))
    (V.need (0 < 1 ∧ 0 + x.toNat < ls)
    (V.need (0 < 1 ∧ 0 + x.toNat < ls)
    (nN [(1, .neI 5 0)]
    (V.br ((s (0 + x.toNat)).tmod (Int.ofNat 5) == Int.ofNat 1)
    (V.need (Int.ofNat 0 ≤ x ∧ x < (↑9 : Int))
    (V.need (0 < 1 ∧ 0 + x.toNat < 9)
    (V.need (0 < 1 ∧ 0 + x.toNat < 9)
    (V.br (x_2.cl (0 + x.toNat) != Int.ofNat 1)
    (V.bad 420)
    (V.need (I2 (IntKind.i64.wrap (x + Int.ofNat 1)))
    (V.need ((Int.ofNat 9 - IntKind.i64.wrap (x + Int.ofNat 1)).toNat < (Int.ofNat 9 - x).toNat)
    (nN [qE (IntKind.i64.wrap (x + Int.ofNat 1))] V.ok)))))))
    (V.need (Int.ofNat 0 ≤ x ∧ x < (↑9 : Int))
    (V.need (0 < 1 ∧ 0 + x.toNat < 9)
    (V.need (0 < 1 ∧ 0 + x.toNat < 9)
    (V.br (x_2.cl (0 + x.toNat) != Int.ofNat 0)
    (V.bad 420)
    (V.need (I2 (IntKind.i64.wrap (x + Int.ofNat 1)))
    (V.need ((Int.ofNat 9 - IntKind.i64.wrap (x + Int.ofNat 1)).toNat < (Int.ofNat 9 - x).toNat)
    (nN [qE (IntKind.i64.wrap (x + Int.ofNat 1))] V.ok))))))))))))
    (V.need (Int.ofNat 0 ≤ x ∧ x < (↑9 : Int))
    (V.need (0 < 1 ∧ 0 + x.toNat < 9)
    (V.need (0 < 1 ∧ 0 + x.toNat < 9)
    (V.br (x_2.cl (0 + x.toNat) != Int.ofNat 0)
    (V.bad 420)
    (V.need (I2 (IntKind.i64.wrap (x + Int.ofNat 1)))
    (V.need ((Int.ofNat 9 - IntKind.i64.wrap (x + Int.ofNat 1)).toNat < (Int.ofNat 9 - x).toNat)
    (nN [qE (IntKind.i64.wrap (x + Int.ofNat 1))] V.ok))))))))
    (V.need (Int.ofNat 0 ≤ x ∧ x < (↑9 : Int))
    (V.need (0 < 1 ∧ 0 + x.toNat < 9)
    (V.need (0 < 1 ∧ 0 + x.toNat < 9)
    (V.br (x_2.cl (0 + x.toNat) != Int.ofNat 0)
    (V.bad 420)
    (V.need (I2 (IntKind.i64.wrap (x + Int.ofNat 1)))
    (V.need ((Int.ofNat 9 - IntKind.i64.wrap (x + Int.ofNat 1)).toNat < (Int.ofNat 9 - x).toNat)
    (nN [qE (IntKind.i64.wrap (x + Int.ofNat 1))] V.ok)))))))))))))))
    (nN [(17, .lt2 0 1 0 1), (2, .eq 83 83), (1, .le 1 1), (1, .pf (∀ (i : Nat), i < 1 → 83 ≤ 83) (by intros; exact Nat.le_refl _)), (1, .pf (∀ (i e : Nat), i < 1 ∧ e < 83 → x_3.fst.r.m.g e = x_3.fst.r.m.g e) (by intros; rfl)), (1, .le 83 1000000)]
    (V.need (∃ (x : Nat), 83 ≤ x)
    (V.any Nat (fun (c : Nat) => 83 ≤ c) fun (x : Nat) => nN [(1, .eqI 1 1), (1, .eqI 3 3), (1, .eqI 1 1), (1, .eqI 9 9), (1, .eqI 8 8), (2, .eqI 1 1), (1, .eqI 0 0), (1, .eqI 1 1), (1, .eq 1 1), qE x_1.fst, (1, .eq 0 0), qE x_1.snd.fst, (1, .eq 83 83), qE x, (1, .eqI 0 0), (1, .le 1 1)]
    (V.need (1 ≤ 1 ∧ 1 ≤ x_1.fst)
    (nN [(1, .pf (∀ (i e : Nat), i = 0 ∧ e < 1 → e = e) (by intros; rfl)), (1, .pf (∀ (i e : Nat), i = 0 ∧ e < 1 → 0 = 0) (by intros; rfl)), (1, .pf (∀ (i e : Nat), i = 0 ∧ e < 1 → x_1.snd.snd e = x_1.snd.snd e) (by intros; rfl)), (1, .le 1 1)]
    (V.need (0 ≤ 0 ∧ 0 ≤ x_1.snd.fst)
    (nN [(1, .pf (∀ (i e : Nat), i = 0 ∧ e < 0 → uP (fun (x : Nat) => Int.ofNat 0) 0 e = uP (fun (x : Nat) => Int.ofNat 0) 0 e) (by intros; rfl)), (1, .pf (∀ (i e : Nat), i = 0 ∧ e < 0 → uL (fun (x : Nat) => Int.ofNat 0) 0 e = uL (fun (x : Nat) => Int.ofNat 0) 0 e) (by intros; rfl)), (1, .pf (∀ (i e : Nat), i = 0 ∧ e < 0 → uD (fun (x : Nat) => Int.ofNat 0) 0 e = uD (fun (x : Nat) => Int.ofNat 0) 0 e) (by intros; rfl))]
    (V.need (∀ (i : Nat), i < 1 → 0 ≤ gd 1 (fun (x : Nat) => 0) i ∧ 0 ≤ gd 1 x_1.snd.snd i)
    (nN [(1, .pf (∀ (i e : Nat), i < 1 ∧ e < 0 → cO (fun (x : Nat) => Int.ofNat 0) 0 i e = cO (fun (x : Nat) => Int.ofNat 0) 0 i e) (by intros; rfl)), (1, .pf (∀ (i e : Nat), i < 1 ∧ e < 0 → cA (fun (x : Nat) => Int.ofNat 0) 0 i e = cA (fun (x : Nat) => Int.ofNat 0) 0 i e) (by intros; rfl)), (1, .pf (∀ (i e : Nat), i < 1 ∧ e < 0 → cB (fun (x : Nat) => Int.ofNat 0) 0 i e = cB (fun (x : Nat) => Int.ofNat 0) 0 i e) (by intros; rfl)), (1, .le 1 1)]
    (V.need (83 ≤ 83 ∧ 83 ≤ x)
    (nN [(1, .pf (∀ (i e : Nat), i = 0 ∧ e < 83 → x_3.fst.r.m.g e = x_3.fst.r.m.g e) (by intros; rfl))]
    (V.need (preEnt (Cf.mk (Int.ofNat 1) (Int.ofNat 3) (Int.ofNat 1) (Int.ofNat 9) (Int.ofNat 8) (Int.ofNat 1) (Int.ofNat 1) (Int.ofNat 0) (Int.ofNat 1) 1 x_1.fst 0 x_1.snd.fst (fun (e : Nat) => 0) x_1.snd.snd (fun (i e : Nat) => cO (fun (x : Nat) => Int.ofNat 0) 0 i e) (fun (i e : Nat) => cA (fun (x : Nat) => Int.ofNat 0) 0 i e) (fun (i e : Nat) => cB (fun (x : Nat) => Int.ofNat 0) 0 i e) (fun (e : Nat) => uP (fun (x : Nat) => Int.ofNat 0) 0 e) (fun (e : Nat) => uL (fun (x : Nat) => Int.ofNat 0) 0 e) fun (e : Nat) => uD (fun (x : Nat) => Int.ofNat 0) 0 e) 83 x_3.fst.r.m.g (Int.ofNat 0))
    (V.br (decide (Int.ofNat 1 ≤ entN (Cf.mk (Int.ofNat 1) (Int.ofNat 3) (Int.ofNat 1) (Int.ofNat 9) (Int.ofNat 8) (Int.ofNat 1) (Int.ofNat 1) (Int.ofNat 0) (Int.ofNat 1) 1 x_1.fst 0 x_1.snd.fst (fun (e : Nat) => 0) x_1.snd.snd (fun (i e : Nat) => cO (fun (x : Nat) => Int.ofNat 0) 0 i e) (fun (i e : Nat) => cA (fun (x : Nat) => Int.ofNat 0) 0 i e) (fun (i e : Nat) => cB (fun (x : Nat) => Int.ofNat 0) 0 i e) (fun (e : Nat) => uP (fun (x : Nat) => Int.ofNat 0) 0 e) (fun (e : Nat) => uL (fun (x : Nat) => Int.ofNat 0) 0 e) fun (e : Nat) => uD (fun (x : Nat) => Int.ofNat 0) 0 e) x_3.fst.r.m.g (Int.ofNat 0) ∧ entN (Cf.mk (Int.ofNat 1) (Int.ofNat 3) (Int.ofNat 1) (Int.ofNat 9) (Int.ofNat 8) (Int.ofNat 1) (Int.ofNat 1) (Int.ofNat 0) (Int.ofNat 1) 1 x_1.fst 0 x_1.snd.fst (fun (e : Nat) => 0) x_1.snd.snd (fun (i e : Nat) => cO (fun (x : Nat) => Int.ofNat 0) 0 i e) (fun (i e : Nat) => cA (fun (x : Nat) => Int.ofNat 0) 0 i e) (fun (i e : Nat) => cB (fun (x : Nat) => Int.ofNat 0) 0 i e) (fun (e : Nat) => uP (fun (x : Nat) => Int.ofNat 0) 0 e) (fun (e : Nat) => uL (fun (x : Nat) => Int.ofNat 0) 0 e) fun (e : Nat) => uD (fun (x : Nat) => Int.ofNat 0) 0 e) x_3.fst.r.m.g (Int.ofNat 0) ≤ Int.ofNat 8))
    (V.need (∃ (x : Nat), (entN (Cf.mk (Int.ofNat 1) (Int.ofNat 3) (Int.ofNat 1) (Int.ofNat 9) (Int.ofNat 8) (Int.ofNat 1) (Int.ofNat 1) (Int.ofNat 0) (Int.ofNat 1) 1 x_1.fst 0 x_1.snd.fst (fun (e : Nat) => 0) x_1.snd.snd (fun (i e : Nat) => cO (fun (x : Nat) => Int.ofNat 0) 0 i e) (fun (i e : Nat) => cA (fun (x : Nat) => Int.ofNat 0) 0 i e) (fun (i e : Nat) => cB (fun (x : Nat) => Int.ofNat 0) 0 i e) (fun (e : Nat) => uP (fun (x : Nat) => Int.ofNat 0) 0 e) (fun (e : Nat) => uL (fun (x : Nat) => Int.ofNat 0) 0 e) fun (e : Nat) => uD (fun (x : Nat) => Int.ofNat 0) 0 e) x_3.fst.r.m.g (Int.ofNat 0)).toNat ≤ x)
    (V.any Nat (fun (cp : Nat) => (entN (Cf.mk (Int.ofNat 1) (Int.ofNat 3) (Int.ofNat 1) (Int.ofNat 9) (Int.ofNat 8) (Int.ofNat 1) (Int.ofNat 1) (Int.ofNat 0) (Int.ofNat 1) 1 x_1.fst 0 x_1.snd.fst (fun (e : Nat) => 0) x_1.snd.snd (fun (i e : Nat) => cO (fun (x : Nat) => Int.ofNat 0) 0 i e) (fun (i e : Nat) => cA (fun (x : Nat) => Int.ofNat 0) 0 i e) (fun (i e : Nat) => cB (fun (x : Nat) => Int.ofNat 0) 0 i e) (fun (e : Nat) => uP (fun (x : Nat) => Int.ofNat 0) 0 e) (fun (e : Nat) => uL (fun (x : Nat) => Int.ofNat 0) 0 e) fun (e : Nat) => uD (fun (x : Nat) => Int.ofNat 0) 0 e) x_3.fst.r.m.g (Int.ofNat 0)).toNat ≤ cp) fun (x : Nat) => V.br ((↑(entN (Cf.mk (Int.ofNat 1) (Int.ofNat 3) (Int.ofNat 1) (Int.ofNat 9) (Int.ofNat 8) (Int.ofNat 1) (Int.ofNat 1) (Int.ofNat 0) (Int.ofNat 1) 1 x_1.fst 0 x_1.snd.fst (fun (e : Nat) => 0) x_1.snd.snd (fun (i e : Nat) => cO (fun (x : Nat) => Int.ofNat 0) 0 i e) (fun (i e : Nat) => cA (fun (x : Nat) => Int.ofNat 0) 0 i e) (fun (i e : Nat) => cB (fun (x : Nat) => Int.ofNat 0) 0 i e) (fun (e : Nat) => uP (fun (x : Nat) => Int.ofNat 0) 0 e) (fun (e : Nat) => uL (fun (x : Nat) => Int.ofNat 0) 0 e) fun (e : Nat) => uD (fun (x : Nat) => Int.ofNat 0) 0 e) x_3.fst.r.m.g (Int.ofNat 0)).toNat : Int) == Int.ofNat 0)
    (nN [(14, .lt2 0 1 0 1), (1, .eqI 7 7), qE x_3.fst.r.m.ct, (1, .le 1 1), (1, .le2 83 83 83 83), (1, .pf (∀ (i e : Nat), i = 0 ∧ e < 83 → x_3.fst.r.m.g e = x_3.fst.r.m.g e) (by intros; rfl)), qX (x_3.fst.r.m.val 83 (Int.ofNat 7))]
    (V.any Int (fun (v : Int) => v = x_3.fst.r.m.val 83 (Int.ofNat 7)) fun (x : Int) => V.need ((x == Int.ofNat 0) = true) V.ok))
    (V.bad 420)))
    (nN [(14, .lt2 0 1 0 1), (1, .eqI 7 7), qE x_3.fst.r.m.ct, (1, .le 1 1), (1, .le2 83 83 83 83), (1, .pf (∀ (i e : Nat), i = 0 ∧ e < 83 → x_3.fst.r.m.g e = x_3.fst.r.m.g e) (by intros; rfl)), qX (x_3.fst.r.m.val 83 (Int.ofNat 7))]
    (V.any Int (fun (v : Int) => v = x_3.fst.r.m.val 83 (Int.ofNat 7)) fun (x : Int) => V.need ((x == Int.ofNat 0) = true) V.ok)))))))))))))))))))
    (V.br (decide (x_3.fst.r.v < Int.ofNat 0))
    (V.bad 420)
    (nN [(2, .lt2 0 1 0 1)]
    (V.br (decide (x_3.fst.r.v ≥ Int.ofNat 9))
    (V.bad 420)
    (V.need (Int.ofNat 0 ≤ x_3.fst.r.v ∧ x_3.fst.r.v < (↑9 : Int))
    (V.need (0 + x_3.fst.r.v.toNat < 9)
    (V.need (0 + x_3.fst.r.v.toNat < 9)
    (V.need (Int.ofNat 0 ≤ x_3.fst.r.v ∧ x_3.fst.r.v < (↑9 : Int))
    (V.need (0 + x_3.fst.r.v.toNat < 9)
    (V.need (0 + x_3.fst.r.v.toNat < 9)
    (V.need (I1 (XTl.mk (IntKind.i64.wrap (x_2.i + Int.ofNat 1)) x_3.fst.r.m x_3.fst.r.l x_3.snd x_3.fst.st fun (i : Nat) => if 0 = 0 ∧ i = 0 + x_3.fst.r.v.toNat then IntKind.i64.wrap (x_2.cl (0 + x_3.fst.r.v.toNat) + Int.ofNat 1) else x_2.cl i))
    (V.need ((Int.ofNat 30 - IntKind.i64.wrap (x_2.i + Int.ofNat 1)).toNat < (Int.ofNat 30 - x_2.i).toNat)
    (nN [qE (IntKind.i64.wrap (x_2.i + Int.ofNat 1)), qE x_3.fst.r.m.lk, qE x_3.fst.r.m.lc, qE x_3.fst.r.m.lo, qE x_3.fst.r.m.ln, qE x_3.fst.r.m.ct, (1, .eq 83 83), (1, .le 83 83), qF 83 x_3.fst.r.m.g, (1, .eqI 1 1), (1, .eqI 3 3), (1, .eqI 1 1), (1, .eqI 9 9), (1, .eqI 8 8), (1, .eqI 1 1), (1, .eqI 5 5), (1, .eqI 6 6), (1, .eqI 7 7), (1, .eqI 8 8), (1, .eqI 38 38), (1, .eq 9 9), qE x.rc, qE x_3.fst.r.l.n, qE x_3.snd, qE x_3.snd, qL x_3.fst.r.l.n, qF x_3.fst.r.l.n x_3.fst.r.l.v.k, qF x_3.fst.r.l.n x_3.fst.r.l.v.w, qF x_3.fst.r.l.n x_3.fst.r.l.v.t, qF x_3.fst.r.l.n x_3.fst.r.l.v.o, qF x_3.fst.r.l.n x_3.fst.r.l.v.l, qE x.rc, (1, .le 9 9), qF 9 x_3.fst.st, (1, .eq 9 9), (1, .le 9 9)]
    (V.need (∀ (e : Nat), e < 9 → (if 0 = 0 ∧ e = 0 + x_3.fst.r.v.toNat then IntKind.i64.wrap (x_2.cl (0 + x_3.fst.r.v.toNat) + Int.ofNat 1) else x_2.cl e) = if 0 = 0 ∧ e = 0 + x_3.fst.r.v.toNat then IntKind.i64.wrap (x_2.cl (0 + x_3.fst.r.v.toNat) + Int.ofNat 1) else x_2.cl e) V.ok))))))))))))))))))
    (V.need (I2 (Int.ofNat 0))
    (nN [(1, .eqI 0 0)]
    (V.any Int I2 fun (x : Int) => nN [(2, .lt2 0 1 0 1)]
    (V.br (decide (x < Int.ofNat 9))
    (V.need (I3 x (XTc.mk (Int.ofNat 0) false fun (i : Nat) => numAt [SC.ki IntKind.i64 (Int.ofNat 0), SC.ki IntKind.i64 (Int.ofNat 0), SC.ki IntKind.i64 (Int.ofNat 0)] i))
    (nN [(1, .eqI 0 0), qE false, (1, .eq 3 3), (1, .le 3 3)]
    (V.need (∀ (e : Nat), e < 3 → e < 3)
    (V.need (∀ (e : Nat), e < 3 → e = 0 → Int.ofNat 0 = numAt [SC.ki IntKind.i64 (Int.ofNat 0), SC.ki IntKind.i64 (Int.ofNat 0), SC.ki IntKind.i64 (Int.ofNat 0)] e)
    (V.need (∀ (e : Nat), e < 3 → e = 1 → Int.ofNat 0 = numAt [SC.ki IntKind.i64 (Int.ofNat 0), SC.ki IntKind.i64 (Int.ofNat 0), SC.ki IntKind.i64 (Int.ofNat 0)] e)
    (V.need (∀ (e : Nat), e < 3 → e = 2 → Int.ofNat 0 = numAt [SC.ki IntKind.i64 (Int.ofNat 0), SC.ki IntKind.i64 (Int.ofNat 0), SC.ki IntKind.i64 (Int.ofNat 0)] e)
    (V.any XTc (I3 x) fun (x_3 : XTc) => V.br (decide (x_3.i < (↑lg : Int)))
    (V.br (decide (x_3.i < Int.ofNat 16))
    (V.need (Int.ofNat 0 ≤ x_3.i ∧ x_3.i < (↑lg : Int))
    (V.need (0 < 1 ∧ 0 + x_3.i.toNat < lg)
    (V.need (0 < 1 ∧ 0 + x_3.i.toNat < lg)
    (nN [(1, .neI 3 0)]
    (V.need (Int.ofNat 0 ≤ (g (0 + x_3.i.toNat)).tmod (Int.ofNat 3) ∧ (g (0 + x_3.i.toNat)).tmod (Int.ofNat 3) < (↑3 : Int))
    (nN [(1, .lt 0 3)]
    (V.need (((g (0 + x_3.i.toNat)).tmod (Int.ofNat 3)).toNat < 3)
    (V.need (Int.ofNat 0 ≤ (g (0 + x_3.i.toNat)).tmod (Int.ofNat 3) ∧ (g (0 + x_3.i.toNat)).tmod (Int.ofNat 3) < (↑3 : Int))
    (nN [(1, .lt 0 3)]
    (V.need (((g (0 + x_3.i.toNat)).tmod (Int.ofNat 3)).toNat < 3)
    (V.br x_3.h
    (V.need (I3 x (XTc.mk (IntKind.i64.wrap (x_3.i + Int.ofNat 1)) true fun (i : Nat) => if 0 = 0 ∧ i = ((g (0 + x_3.i.toNat)).tmod (Int.ofNat 3)).toNat then IntKind.i64.wrap (x_3.c ((g (0 + x_3.i.toNat)).tmod (Int.ofNat 3)).toNat + Int.ofNat 1) else x_3.c i))
    (V.need ((Int.ofNat 16 - IntKind.i64.wrap (x_3.i + Int.ofNat 1)).toNat < (Int.ofNat 16 - x_3.i).toNat)
    (nN [qE (IntKind.i64.wrap (x_3.i + Int.ofNat 1)), qE true, (1, .eq 3 3), (1, .le 3 3)]
    (V.need (∀ (e : Nat), e < 3 → (if 0 = 0 ∧ e = ((g (0 + x_3.i.toNat)).tmod (Int.ofNat 3)).toNat then IntKind.i64.wrap (x_3.c ((g (0 + x_3.i.toNat)).tmod (Int.ofNat 3)).toNat + Int.ofNat 1) else x_3.c e) = if 0 = 0 ∧ e = ((g (0 + x_3.i.toNat)).tmod (Int.ofNat 3)).toNat then IntKind.i64.wrap (x_3.c ((g (0 + x_3.i.toNat)).tmod (Int.ofNat 3)).toNat + Int.ofNat 1) else x_3.c e) V.ok))))
    (V.need (Int.ofNat 0 ≤ (g (0 + x_3.i.toNat)).tmod (Int.ofNat 3) ∧ (g (0 + x_3.i.toNat)).tmod (Int.ofNat 3) < (↑3 : Int))
    (nN [(1, .lt2 0 1 0 3)]
    (V.need (0 < 1 ∧ ((g (0 + x_3.i.toNat)).tmod (Int.ofNat 3)).toNat < 3)
    (nN [(2, .lt2 0 1 0 1)]
    (V.br (decide ((if 0 = 0 ∧ ((g (0 + x_3.i.toNat)).tmod (Int.ofNat 3)).toNat = ((g (0 + x_3.i.toNat)).tmod (Int.ofNat 3)).toNat then IntKind.i64.wrap (x_3.c ((g (0 + x_3.i.toNat)).tmod (Int.ofNat 3)).toNat + Int.ofNat 1) else x_3.c ((g (0 + x_3.i.toNat)).tmod (Int.ofNat 3)).toNat) ≤ Int.ofNat 8))
    (V.need (Int.ofNat 0 ≤ x_3.i ∧ x_3.i < (↑lg : Int))
    (V.need (0 < 1 ∧ 0 + x_3.i.toNat < lg)
    (V.need (0 < 1 ∧ 0 + x_3.i.toNat < lg)
    (nN [(1, .neI 3 0), (1, .neI 9 0)]
    (V.need (I3 x (XTc.mk (IntKind.i64.wrap (x_3.i + Int.ofNat 1)) (IntKind.i64.wrap ((IntKind.u8.wrap ((g (0 + x_3.i.toNat)).tdiv (Int.ofNat 3))).tmod (Int.ofNat 9)) == x) fun (i : Nat) => if 0 = 0 ∧ i = ((g (0 + x_3.i.toNat)).tmod (Int.ofNat 3)).toNat then IntKind.i64.wrap (x_3.c ((g (0 + x_3.i.toNat)).tmod (Int.ofNat 3)).toNat + Int.ofNat 1) else x_3.c i))
    (V.need ((Int.ofNat 16 - IntKind.i64.wrap (x_3.i + Int.ofNat 1)).toNat < (Int.ofNat 16 - x_3.i).toNat)
    (nN [qE (IntKind.i64.wrap (x_3.i + Int.ofNat 1)), qE ((IntKind.i64.wrap ((IntKind.u8.wrap ((g (0 + x_3.i.toNat)).tdiv (Int.ofNat 3))).tmod (Int.ofNat 9)) == x)), (1, .eq 3 3), (1, .le 3 3)]
    (V.need (∀ (e : Nat), e < 3 → (if 0 = 0 ∧ e = ((g (0 + x_3.i.toNat)).tmod (Int.ofNat 3)).toNat then IntKind.i64.wrap (x_3.c ((g (0 + x_3.i.toNat)).tmod (Int.ofNat 3)).toNat + Int.ofNat 1) else x_3.c e) = if 0 = 0 ∧ e = ((g (0 + x_3.i.toNat)).tmod (Int.ofNat 3)).toNat then IntKind.i64.wrap (x_3.c ((g (0 + x_3.i.toNat)).tmod (Int.ofNat 3)).toNat + Int.ofNat 1) else x_3.c e) V.ok))))))))
    (V.need (I3 x (XTc.mk (IntKind.i64.wrap (x_3.i + Int.ofNat 1)) false fun (i : Nat) => if 0 = 0 ∧ i = ((g (0 + x_3.i.toNat)).tmod (Int.ofNat 3)).toNat then IntKind.i64.wrap (x_3.c ((g (0 + x_3.i.toNat)).tmod (Int.ofNat 3)).toNat + Int.ofNat 1) else x_3.c i))
    (V.need ((Int.ofNat 16 - IntKind.i64.wrap (x_3.i + Int.ofNat 1)).toNat < (Int.ofNat 16 - x_3.i).toNat)
    (nN [qE (IntKind.i64.wrap (x_3.i + Int.ofNat 1)), qE false, (1, .eq 3 3), (1, .le 3 3)]
    (V.need (∀ (e : Nat), e < 3 → (if 0 = 0 ∧ e = ((g (0 + x_3.i.toNat)).tmod (Int.ofNat 3)).toNat then IntKind.i64.wrap (x_3.c ((g (0 + x_3.i.toNat)).tmod (Int.ofNat 3)).toNat + Int.ofNat 1) else x_3.c e) = if 0 = 0 ∧ e = ((g (0 + x_3.i.toNat)).tmod (Int.ofNat 3)).toNat then IntKind.i64.wrap (x_3.c ((g (0 + x_3.i.toNat)).tmod (Int.ofNat 3)).toNat + Int.ofNat 1) else x_3.c e) V.ok))))))))))))))))))))
    (V.br x_3.h
    (V.br (decide (x < (↑ls : Int)))
    (V.need (Int.ofNat 0 ≤ x ∧ x < (↑ls : Int))
    (V.need (0 < 1 ∧ 0 + x.toNat < ls)
    (V.need (0 < 1 ∧ 0 + x.toNat < ls)
    (nN [(1, .neI 5 0)]
    (V.br ((s (0 + x.toNat)).tmod (Int.ofNat 5) == Int.ofNat 1)
    (V.need (Int.ofNat 0 ≤ x ∧ x < (↑9 : Int))
    (V.need (0 < 1 ∧ 0 + x.toNat < 9)
    (V.need (0 < 1 ∧ 0 + x.toNat < 9)
    (V.br (x_2.cl (0 + x.toNat) != Int.ofNat 1)
    (V.bad 420)
    (V.need (I2 (IntKind.i64.wrap (x + Int.ofNat 1)))
    (V.need ((Int.ofNat 9 - IntKind.i64.wrap (x + Int.ofNat 1)).toNat < (Int.ofNat 9 - x).toNat)
    (nN [qE (IntKind.i64.wrap (x + Int.ofNat 1))] V.ok)))))))
    (V.need (Int.ofNat 0 ≤ x ∧ x < (↑9 : Int))
    (V.need (0 < 1 ∧ 0 + x.toNat < 9)
    (V.need (0 < 1 ∧ 0 + x.toNat < 9)
    (V.br (x_2.cl (0 + x.toNat) != Int.ofNat 0)
    (V.bad 420)
    (V.need (I2 (IntKind.i64.wrap (x + Int.ofNat 1)))
    (V.need ((Int.ofNat 9 - IntKind.i64.wrap (x + Int.ofNat 1)).toNat < (Int.ofNat 9 - x).toNat)
    (nN [qE (IntKind.i64.wrap (x + Int.ofNat 1))] V.ok))))))))))))
    (V.need (Int.ofNat 0 ≤ x ∧ x < (↑9 : Int))
    (V.need (0 < 1 ∧ 0 + x.toNat < 9)
    (V.need (0 < 1 ∧ 0 + x.toNat < 9)
    (V.br (x_2.cl (0 + x.toNat) != Int.ofNat 0)
    (V.bad 420)
    (V.need (I2 (IntKind.i64.wrap (x + Int.ofNat 1)))
    (V.need ((Int.ofNat 9 - IntKind.i64.wrap (x + Int.ofNat 1)).toNat < (Int.ofNat 9 - x).toNat)
    (nN [qE (IntKind.i64.wrap (x + Int.ofNat 1))] V.ok))))))))
    (V.need (Int.ofNat 0 ≤ x ∧ x < (↑9 : Int))
    (V.need (0 < 1 ∧ 0 + x.toNat < 9)
    (V.need (0 < 1 ∧ 0 + x.toNat < 9)
    (V.br (x_2.cl (0 + x.toNat) != Int.ofNat 0)
    (V.bad 420)
    (V.need (I2 (IntKind.i64.wrap (x + Int.ofNat 1)))
    (V.need ((Int.ofNat 9 - IntKind.i64.wrap (x + Int.ofNat 1)).toNat < (Int.ofNat 9 - x).toNat)
    (nN [qE (IntKind.i64.wrap (x + Int.ofNat 1))] V.ok)))))))))
    (V.br x_3.h
    (V.br (decide (x < (↑ls : Int)))
    (V.need (Int.ofNat 0 ≤ x ∧ x < (↑ls : Int))
    (V.need (0 < 1 ∧ 0 + x.toNat < ls)
    (V.need (0 < 1 ∧ 0 + x.toNat < ls)
    (nN [(1, .neI 5 0)]
    (V.br ((s (0 + x.toNat)).tmod (Int.ofNat 5) == Int.ofNat 1)
    (V.need (Int.ofNat 0 ≤ x ∧ x < (↑9 : Int))
    (V.need (0 < 1 ∧ 0 + x.toNat < 9)
    (V.need (0 < 1 ∧ 0 + x.toNat < 9)
    (V.br (x_2.cl (0 + x.toNat) != Int.ofNat 1)
    (V.bad 420)
    (V.need (I2 (IntKind.i64.wrap (x + Int.ofNat 1)))
    (V.need ((Int.ofNat 9 - IntKind.i64.wrap (x + Int.ofNat 1)).toNat < (Int.ofNat 9 - x).toNat)
    (nN [qE (IntKind.i64.wrap (x + Int.ofNat 1))] V.ok)))))))
    (V.need (Int.ofNat 0 ≤ x ∧ x < (↑9 : Int))
    (V.need (0 < 1 ∧ 0 + x.toNat < 9)
    (V.need (0 < 1 ∧ 0 + x.toNat < 9)
    (V.br (x_2.cl (0 + x.toNat) != Int.ofNat 0)
    (V.bad 420)
    (V.need (I2 (IntKind.i64.wrap (x + Int.ofNat 1)))
    (V.need ((Int.ofNat 9 - IntKind.i64.wrap (x + Int.ofNat 1)).toNat < (Int.ofNat 9 - x).toNat)
    (nN [qE (IntKind.i64.wrap (x + Int.ofNat 1))] V.ok))))))))))))
    (V.need (Int.ofNat 0 ≤ x ∧ x < (↑9 : Int))
    (V.need (0 < 1 ∧ 0 + x.toNat < 9)
    (V.need (0 < 1 ∧ 0 + x.toNat < 9)
    (V.br (x_2.cl (0 + x.toNat) != Int.ofNat 0)
    (V.bad 420)
    (V.need (I2 (IntKind.i64.wrap (x + Int.ofNat 1)))
    (V.need ((Int.ofNat 9 - IntKind.i64.wrap (x + Int.ofNat 1)).toNat < (Int.ofNat 9 - x).toNat)
    (nN [qE (IntKind.i64.wrap (x + Int.ofNat 1))] V.ok))))))))
    (V.need (Int.ofNat 0 ≤ x ∧ x < (↑9 : Int))
    (V.need (0 < 1 ∧ 0 + x.toNat < 9)
    (V.need (0 < 1 ∧ 0 + x.toNat < 9)
    (V.br (x_2.cl (0 + x.toNat) != Int.ofNat 0)
    (V.bad 420)
    (V.need (I2 (IntKind.i64.wrap (x + Int.ofNat 1)))
    (V.need ((Int.ofNat 9 - IntKind.i64.wrap (x + Int.ofNat 1)).toNat < (Int.ofNat 9 - x).toNat)
    (nN [qE (IntKind.i64.wrap (x + Int.ofNat 1))] V.ok)))))))))))))))
    (nN [(17, .lt2 0 1 0 1), (2, .eq 83 83), (1, .le 1 1), (1, .pf (∀ (i : Nat), i < 1 → 83 ≤ 83) (by intros; exact Nat.le_refl _)), (1, .pf (∀ (i e : Nat), i < 1 ∧ e < 83 → x_2.m.g e = x_2.m.g e) (by intros; rfl)), (1, .le 83 1000000)]
    (V.need (∃ (x : Nat), 83 ≤ x)
    (V.any Nat (fun (c : Nat) => 83 ≤ c) fun (x : Nat) => nN [(1, .eqI 1 1), (1, .eqI 3 3), (1, .eqI 1 1), (1, .eqI 9 9), (1, .eqI 8 8), (2, .eqI 1 1), (1, .eqI 0 0), (1, .eqI 1 1), (1, .eq 1 1), qE x_1.fst, (1, .eq 0 0), qE x_1.snd.fst, (1, .eq 83 83), qE x, (1, .eqI 0 0), (1, .le 1 1)]
    (V.need (1 ≤ 1 ∧ 1 ≤ x_1.fst)
    (nN [(1, .pf (∀ (i e : Nat), i = 0 ∧ e < 1 → e = e) (by intros; rfl)), (1, .pf (∀ (i e : Nat), i = 0 ∧ e < 1 → 0 = 0) (by intros; rfl)), (1, .pf (∀ (i e : Nat), i = 0 ∧ e < 1 → x_1.snd.snd e = x_1.snd.snd e) (by intros; rfl)), (1, .le 1 1)]
    (V.need (0 ≤ 0 ∧ 0 ≤ x_1.snd.fst)
    (nN [(1, .pf (∀ (i e : Nat), i = 0 ∧ e < 0 → uP (fun (x : Nat) => Int.ofNat 0) 0 e = uP (fun (x : Nat) => Int.ofNat 0) 0 e) (by intros; rfl)), (1, .pf (∀ (i e : Nat), i = 0 ∧ e < 0 → uL (fun (x : Nat) => Int.ofNat 0) 0 e = uL (fun (x : Nat) => Int.ofNat 0) 0 e) (by intros; rfl)), (1, .pf (∀ (i e : Nat), i = 0 ∧ e < 0 → uD (fun (x : Nat) => Int.ofNat 0) 0 e = uD (fun (x : Nat) => Int.ofNat 0) 0 e) (by intros; rfl))]
    (V.need (∀ (i : Nat), i < 1 → 0 ≤ gd 1 (fun (x : Nat) => 0) i ∧ 0 ≤ gd 1 x_1.snd.snd i)
    (nN [(1, .pf (∀ (i e : Nat), i < 1 ∧ e < 0 → cO (fun (x : Nat) => Int.ofNat 0) 0 i e = cO (fun (x : Nat) => Int.ofNat 0) 0 i e) (by intros; rfl)), (1, .pf (∀ (i e : Nat), i < 1 ∧ e < 0 → cA (fun (x : Nat) => Int.ofNat 0) 0 i e = cA (fun (x : Nat) => Int.ofNat 0) 0 i e) (by intros; rfl)), (1, .pf (∀ (i e : Nat), i < 1 ∧ e < 0 → cB (fun (x : Nat) => Int.ofNat 0) 0 i e = cB (fun (x : Nat) => Int.ofNat 0) 0 i e) (by intros; rfl)), (1, .le 1 1)]
    (V.need (83 ≤ 83 ∧ 83 ≤ x)
    (nN [(1, .pf (∀ (i e : Nat), i = 0 ∧ e < 83 → x_2.m.g e = x_2.m.g e) (by intros; rfl))]
    (V.need (preEnt (Cf.mk (Int.ofNat 1) (Int.ofNat 3) (Int.ofNat 1) (Int.ofNat 9) (Int.ofNat 8) (Int.ofNat 1) (Int.ofNat 1) (Int.ofNat 0) (Int.ofNat 1) 1 x_1.fst 0 x_1.snd.fst (fun (e : Nat) => 0) x_1.snd.snd (fun (i e : Nat) => cO (fun (x : Nat) => Int.ofNat 0) 0 i e) (fun (i e : Nat) => cA (fun (x : Nat) => Int.ofNat 0) 0 i e) (fun (i e : Nat) => cB (fun (x : Nat) => Int.ofNat 0) 0 i e) (fun (e : Nat) => uP (fun (x : Nat) => Int.ofNat 0) 0 e) (fun (e : Nat) => uL (fun (x : Nat) => Int.ofNat 0) 0 e) fun (e : Nat) => uD (fun (x : Nat) => Int.ofNat 0) 0 e) 83 x_2.m.g (Int.ofNat 0))
    (V.br (decide (Int.ofNat 1 ≤ entN (Cf.mk (Int.ofNat 1) (Int.ofNat 3) (Int.ofNat 1) (Int.ofNat 9) (Int.ofNat 8) (Int.ofNat 1) (Int.ofNat 1) (Int.ofNat 0) (Int.ofNat 1) 1 x_1.fst 0 x_1.snd.fst (fun (e : Nat) => 0) x_1.snd.snd (fun (i e : Nat) => cO (fun (x : Nat) => Int.ofNat 0) 0 i e) (fun (i e : Nat) => cA (fun (x : Nat) => Int.ofNat 0) 0 i e) (fun (i e : Nat) => cB (fun (x : Nat) => Int.ofNat 0) 0 i e) (fun (e : Nat) => uP (fun (x : Nat) => Int.ofNat 0) 0 e) (fun (e : Nat) => uL (fun (x : Nat) => Int.ofNat 0) 0 e) fun (e : Nat) => uD (fun (x : Nat) => Int.ofNat 0) 0 e) x_2.m.g (Int.ofNat 0) ∧ entN (Cf.mk (Int.ofNat 1) (Int.ofNat 3) (Int.ofNat 1) (Int.ofNat 9) (Int.ofNat 8) (Int.ofNat 1) (Int.ofNat 1) (Int.ofNat 0) (Int.ofNat 1) 1 x_1.fst 0 x_1.snd.fst (fun (e : Nat) => 0) x_1.snd.snd (fun (i e : Nat) => cO (fun (x : Nat) => Int.ofNat 0) 0 i e) (fun (i e : Nat) => cA (fun (x : Nat) => Int.ofNat 0) 0 i e) (fun (i e : Nat) => cB (fun (x : Nat) => Int.ofNat 0) 0 i e) (fun (e : Nat) => uP (fun (x : Nat) => Int.ofNat 0) 0 e) (fun (e : Nat) => uL (fun (x : Nat) => Int.ofNat 0) 0 e) fun (e : Nat) => uD (fun (x : Nat) => Int.ofNat 0) 0 e) x_2.m.g (Int.ofNat 0) ≤ Int.ofNat 8))
    (V.need (∃ (x : Nat), (entN (Cf.mk (Int.ofNat 1) (Int.ofNat 3) (Int.ofNat 1) (Int.ofNat 9) (Int.ofNat 8) (Int.ofNat 1) (Int.ofNat 1) (Int.ofNat 0) (Int.ofNat 1) 1 x_1.fst 0 x_1.snd.fst (fun (e : Nat) => 0) x_1.snd.snd (fun (i e : Nat) => cO (fun (x : Nat) => Int.ofNat 0) 0 i e) (fun (i e : Nat) => cA (fun (x : Nat) => Int.ofNat 0) 0 i e) (fun (i e : Nat) => cB (fun (x : Nat) => Int.ofNat 0) 0 i e) (fun (e : Nat) => uP (fun (x : Nat) => Int.ofNat 0) 0 e) (fun (e : Nat) => uL (fun (x : Nat) => Int.ofNat 0) 0 e) fun (e : Nat) => uD (fun (x : Nat) => Int.ofNat 0) 0 e) x_2.m.g (Int.ofNat 0)).toNat ≤ x)
    (V.any Nat (fun (cp : Nat) => (entN (Cf.mk (Int.ofNat 1) (Int.ofNat 3) (Int.ofNat 1) (Int.ofNat 9) (Int.ofNat 8) (Int.ofNat 1) (Int.ofNat 1) (Int.ofNat 0) (Int.ofNat 1) 1 x_1.fst 0 x_1.snd.fst (fun (e : Nat) => 0) x_1.snd.snd (fun (i e : Nat) => cO (fun (x : Nat) => Int.ofNat 0) 0 i e) (fun (i e : Nat) => cA (fun (x : Nat) => Int.ofNat 0) 0 i e) (fun (i e : Nat) => cB (fun (x : Nat) => Int.ofNat 0) 0 i e) (fun (e : Nat) => uP (fun (x : Nat) => Int.ofNat 0) 0 e) (fun (e : Nat) => uL (fun (x : Nat) => Int.ofNat 0) 0 e) fun (e : Nat) => uD (fun (x : Nat) => Int.ofNat 0) 0 e) x_2.m.g (Int.ofNat 0)).toNat ≤ cp) fun (x : Nat) => V.br ((↑(entN (Cf.mk (Int.ofNat 1) (Int.ofNat 3) (Int.ofNat 1) (Int.ofNat 9) (Int.ofNat 8) (Int.ofNat 1) (Int.ofNat 1) (Int.ofNat 0) (Int.ofNat 1) 1 x_1.fst 0 x_1.snd.fst (fun (e : Nat) => 0) x_1.snd.snd (fun (i e : Nat) => cO (fun (x : Nat) => Int.ofNat 0) 0 i e) (fun (i e : Nat) => cA (fun (x : Nat) => Int.ofNat 0) 0 i e) (fun (i e : Nat) => cB (fun (x : Nat) => Int.ofNat 0) 0 i e) (fun (e : Nat) => uP (fun (x : Nat) => Int.ofNat 0) 0 e) (fun (e : Nat) => uL (fun (x : Nat) => Int.ofNat 0) 0 e) fun (e : Nat) => uD (fun (x : Nat) => Int.ofNat 0) 0 e) x_2.m.g (Int.ofNat 0)).toNat : Int) == Int.ofNat 0)
    (nN [(14, .lt2 0 1 0 1), (1, .eqI 7 7), qE x_2.m.ct, (1, .le 1 1), (1, .le2 83 83 83 83), (1, .pf (∀ (i e : Nat), i = 0 ∧ e < 83 → x_2.m.g e = x_2.m.g e) (by intros; rfl)), qX (x_2.m.val 83 (Int.ofNat 7))]
    (V.any Int (fun (v : Int) => v = x_2.m.val 83 (Int.ofNat 7)) fun (x : Int) => V.need ((x == Int.ofNat 0) = true) V.ok))
    (V.bad 420)))
    (nN [(14, .lt2 0 1 0 1), (1, .eqI 7 7), qE x_2.m.ct, (1, .le 1 1), (1, .le2 83 83 83 83), (1, .pf (∀ (i e : Nat), i = 0 ∧ e < 83 → x_2.m.g e = x_2.m.g e) (by intros; rfl)), qX (x_2.m.val 83 (Int.ofNat 7))]
    (V.any Int (fun (v : Int) => v = x_2.m.val 83 (Int.ofNat 7)) fun (x : Int) => V.need ((x == Int.ofNat 0) = true) V.ok))))))))))))))))))))))))))) := by kernel_rfl


end Go.Proofs.Ytomaagmleafjeaa.Md

/- TakeAll: the conditions hold; the walk. -/
set_option linter.unusedVariables false
set_option linter.unusedSimpArgs false
set_option maxRecDepth 100000
namespace Go.Proofs.Ytomaagmleafjeaa.Md
open Go Go.RowKit Sx Cn Dc Ck Vc
def okTl (L : Nat → Nat) (S : Nat → Nat → Int) (sta : Nat → Int) (x : XTl) : Prop := 0 ≤ x.i ∧ x.i ≤ 30 ∧ (∃ (bd : Int) (p : Nat), x.i ≤ (p : Int) ∧ p ≤ tot L ∧ x.l.n ≤ p ∧ TL bd L S sta p x.m x.cl) ∧ x.l.n ≤ x.nc
def okTt (t : Int) : Prop := 0 ≤ t ∧ t ≤ 9
def okTc (g : Nat → Int) (lg : Nat) (t : Int) (x : XTc) : Prop := 0 ≤ x.i ∧ x.i ≤ (min lg 16 : Nat) ∧ (x.h = true ↔ hasE g t x.i.toNat) ∧ ∀ v : Nat, v < 3 → x.c v = (cntE g x.i.toNat v : Nat)
theorem elv_t {g : Nat → Int} {i : Nat} (h : 0 ≤ g i) : ((g i).tmod 3).toNat = elv g i ∧ elv g i < 3 ∧ 0 ≤ (g i).tmod 3 ∧ (g i).tmod 3 < 3 := by
  have h1 := Int.tmod_nonneg 3 h
  have h2 := Int.tmod_lt_of_pos (g i) (show (0 : Int) < 3 by decide)
  unfold elv lvT
  rw [w64 (by omega)]
  omega
theorem cnt_bd {g : Nat → Int} : ∀ {i v : Nat}, cntE g i v ≤ i
  | 0, v => Nat.le_refl _
  | i + 1, v => by
    have h := @cnt_bd g i v
    show cntE g i v + (if v = elv g i then 1 else 0) ≤ i + 1
    split <;> omega
/-- One entry more. -/
theorem okTc_s {g : Nat → Int} {lg : Nat} {t : Int} {x : XTc} {b : Bool} (hg : ∀ i, i < lg → 0 ≤ g i) (h : okTc g lg t x) (h1 : x.i < lg) (h2 : x.i < 16) (hb : b = true ↔ x.h = true ∨ (x.c (elv g x.i.toNat) + 1 ≤ 8 ∧ tkT g x.i.toNat = t)) :
    okTc g lg t ⟨IntKind.i64.wrap (x.i + Int.ofNat 1), b, fun i => if True ∧ i = ((g x.i.toNat).tmod (Int.ofNat 3)).toNat then IntKind.i64.wrap (x.c ((g x.i.toNat).tmod (Int.ofNat 3)).toNat + Int.ofNat 1) else x.c i⟩ := by
  obtain ⟨a1, a2, a3, a4⟩ := h
  obtain ⟨i, hi⟩ : ∃ i : Nat, x.i = i := ⟨x.i.toNat, by omega⟩
  have e0 : IntKind.i64.wrap (x.i + Int.ofNat 1) = ((i + 1 : Nat) : Int) := by rw [hi]; exact wnat (by omega)
  have e1 : x.i.toNat = i := by omega
  obtain ⟨e2, e3, e4, e5⟩ := elv_t (hg i (by omega))
  have e2 : ((g i).tmod (Int.ofNat 3)).toNat = elv g i := e2
  rw [e1] at hb a3 a4
  simp only [e0, e1, e2]
  have hc := @cnt_bd g i (elv g i)
  have e6 : IntKind.i64.wrap (x.c (elv g i) + Int.ofNat 1) = ((cntE g i (elv g i) + 1 : Nat) : Int) := by rw [a4 _ e3]; exact wnat (by omega)
  refine ⟨Int.natCast_nonneg _, by show ((i + 1 : Nat) : Int) ≤ (min lg 16 : Nat); omega, ?_, fun v hv => ?_⟩
  · show b = true ↔ hasE g t ((i + 1 : Nat) : Int).toNat
    rw [hb, a3, Int.toNat_natCast]
    show hasE g t i ∨ _ ↔ hasE g t i ∨ (cntE g i (elv g i) + (if elv g i = elv g i then 1 else 0) ≤ 8 ∧ tkT g i = t)
    rw [if_pos rfl, a4 _ e3]
    constructor
    · rintro (q | ⟨q1, q2⟩)
      · exact .inl q
      · exact .inr ⟨by omega, q2⟩
    · rintro (q | ⟨q1, q2⟩)
      · exact .inl q
      · exact .inr ⟨by omega, q2⟩
  · show (if True ∧ v = elv g i then _ else x.c v) = ((cntE g i v + (if v = elv g i then 1 else 0) : Nat) : Int)
    by_cases c : v = elv g i
    · rw [if_pos ⟨trivial, c⟩, if_pos c, e6, c]
    · rw [if_neg (fun q => c q.2), if_neg c, a4 v hv]
      rfl
set_option maxHeartbeats 16000000 in
theorem vhTl {g s : Nat → Int} {lg cg ls cs : Nat} (hg : ∀ i, i < lg → 0 ≤ g i ∧ g i ≤ 255) (hs : ∀ i, i < ls → 0 ≤ s i ∧ s i ≤ 255) : VHolds (verTl g s lg cg ls cs (okTl (lsE g (min lg 16)).1 (lsE g (min lg 16)).2 (sta0 s (min ls 9))) okTt (okTc g lg)) := by
  refine VHolds.pr (verTl_eq ..) ?_
  ((repeat' first | with_reducible refine nN_h rfl ?_ | with_reducible refine V.brT ?_ | with_reducible refine V.brF ?_ | with_reducible refine V.needI ?_ ?_) <;> (try first | with_reducible exact V.okI | exact rfl | exact ⟨Nat.le_refl _, rfl⟩ | exact Nat.le_refl _ | assumption | omega | trivial | decide | (intros; rfl) | (intros; trivial)))
  · exact ⟨⟨9, _⟩, Nat.le_refl _, rfl⟩
  refine V.anyI fun x hx => ?_
  obtain ⟨rc, m⟩ := x
  obtain ⟨hrc, hm⟩ := hx
  dsimp only at hrc hm ⊢
  have hla := (la_TI (s := s) (fun i hi => (hg i hi).1) (Nat.min_le_right ls 9) (i := min lg 16) (Nat.min_le_left _ _) (by omega)).1
  rw [← hm] at hla
  clear hm
  have hT16 : tot (lsE g (min lg 16)).1 ≤ 16 := Nat.le_trans tot_lsE2 (Nat.min_le_right _ _)
  have hall : ∀ t : Int, hasE g t (min lg 16) ↔ ∃ i, i < tot (lsE g (min lg 16)).1 ∧ pk (lsE g (min lg 16)).1 (lsE g (min lg 16)).2 i = t := fun t => by
    rw [pk_all]
    exact hasE_iff fun k hk => (elv_t (hg k (by omega)).1).2.1
  have hsta : ∀ t : Nat, t < 9 → (sta0 s (min ls 9) t = 1 ↔ t < ls ∧ (s t).tmod 5 = 1) := fun t ht => by
    unfold sta0 stT
    by_cases c : t < ls
    · have h1 := Int.tmod_nonneg 5 (hs t c).1
      have h2 := Int.tmod_lt_of_pos (s t) (show (0 : Int) < 5 by decide)
      rw [if_pos (by omega), wu64 (by omega)]
      exact ⟨fun q => ⟨c, q⟩, fun q => q.2⟩
    · rw [if_neg (by omega)]
      exact ⟨fun q => absurd q (by decide), fun q => absurd q.1 c⟩
  generalize (lsE g (min lg 16)).1 = L at *
  generalize (lsE g (min lg 16)).2 = S at *
  generalize sta0 s (min ls 9) = sta at *
  ((repeat' first | with_reducible refine nN_h rfl ?_ | with_reducible refine V.brT ?_ | with_reducible refine V.brF ?_ | with_reducible refine V.needI ?_ ?_) <;> (try first | with_reducible exact V.okI | exact rfl | exact ⟨Nat.le_refl _, rfl⟩ | exact Nat.le_refl _ | assumption | omega | trivial | decide | (intros; rfl) | (intros; trivial)))
  all_goals try exact ⟨u8_0, by decide⟩
  all_goals try exact ⟨(1, 0, fun _ => 0), Nat.le_refl _⟩
  refine V.anyI fun x0 h0 => ?_
  ((repeat' first | with_reducible refine nN_h rfl ?_ | with_reducible refine V.brT ?_ | with_reducible refine V.brF ?_ | with_reducible refine V.needI ?_ ?_) <;> (try first | with_reducible exact V.okI | exact rfl | exact ⟨Nat.le_refl _, rfl⟩ | exact Nat.le_refl _ | assumption | omega | trivial | decide | (intros; rfl) | (intros; trivial)))
  · exact ⟨Int.le_refl 0, show (0 : Int) ≤ 30 by decide, ⟨_, 0, Int.le_refl 0, Nat.zero_le _, Nat.le_refl 0, TL_0 hla⟩, Nat.le_refl _⟩
  refine V.anyI fun x hx => ?_
  obtain ⟨i1, i2, ⟨bd, p, i3, i4, i5, hTL⟩, i6⟩ := hx
  obtain ⟨R, hR, hRn, hres⟩ := TL_take (l := x.l) (st := x.st) hTL i4 hT16
  refine V.brI (fun hi => ?_) fun hi => ?_
  case' refine_2 => exact absurd (of_decide_eq_false hi) (fun q => q (by show x.i < (30 : Int); omega))
  have hi : x.i < (30 : Int) := of_decide_eq_true hi
  ((repeat' first | with_reducible refine nN_h rfl ?_ | with_reducible refine V.brT ?_ | with_reducible refine V.brF ?_ | with_reducible refine V.needI ?_ ?_) <;> (try first | with_reducible exact V.okI | exact rfl | exact ⟨Nat.le_refl _, rfl⟩ | exact Nat.le_refl _ | assumption | omega | trivial | decide | (intros; rfl) | (intros; trivial)))
  · exact ⟨yT_ok, by decide, hTL.ti.choose_spec.1.ws.wf.ok, ⟨i6, by omega⟩, R, hR⟩
  · exact ⟨(R, R.r.l.n), hR, Nat.le_refl _⟩
  refine V.anyI fun r hr => ?_
  obtain ⟨r, nc⟩ := r
  obtain ⟨hr, hnc⟩ := hr
  obtain rfl : R = r := Option.some.inj (hR.symm.trans hr)
  dsimp only at hnc ⊢
  refine V.brI (fun hc => ?_) fun hc => ?_
  · rcases hres with ⟨-, q2, q3, q4, sta', q5⟩ | ⟨q1, -⟩
    case' inr => exact (cne q1 hc).elim
    have hfin : ∀ t : Nat, t < 9 → (x.cl t = 1 ∧ hasE g t (min lg 16) ∧ t < ls ∧ (s t).tmod 5 = 1) ∨ (x.cl t = 0 ∧ ¬ (hasE g t (min lg 16) ∧ t < ls ∧ (s t).tmod 5 = 1)) := fun t ht => by
      have e1 : hasE g t (min lg 16) ↔ ∃ i, i < tot L ∧ (pk L S i).toNat = t := by
        rw [hall]
        constructor
        · rintro ⟨i, h1, h2⟩
          exact ⟨i, h1, by omega⟩
        · rintro ⟨i, h1, h2⟩
          have := pk_rng hla h1
          exact ⟨i, h1, by omega⟩
      by_cases c : hasE g t (min lg 16) ∧ sta t = 1
      · exact .inl ⟨q2 t ht (e1.1 c.1) c.2, c.1, (hsta t ht).1 c.2⟩
      · exact .inr ⟨q3 t ht fun q => c ⟨e1.2 q.1, q.2⟩, fun q => c ⟨q.1, (hsta t ht).2 q.2⟩⟩
    ((repeat' first | with_reducible refine nN_h rfl ?_ | with_reducible refine V.brT ?_ | with_reducible refine V.brF ?_ | with_reducible refine V.needI ?_ ?_) <;> (try first | with_reducible exact V.okI | exact rfl | exact ⟨Nat.le_refl _, rfl⟩ | exact Nat.le_refl _ | assumption | omega | trivial | decide | (intros; rfl) | (intros; trivial)))
    all_goals try exact ⟨by decide, by decide⟩
    refine V.anyI fun t ht => ?_
    obtain ⟨t1, t2⟩ := ht
    ((repeat' first | with_reducible refine nN_h rfl ?_ | with_reducible refine V.brT ?_ | with_reducible refine V.brF ?_ | with_reducible refine V.needI ?_ ?_) <;> (try first | with_reducible exact V.okI | exact rfl | exact ⟨Nat.le_refl _, rfl⟩ | exact Nat.le_refl _ | assumption | omega | trivial | decide | (intros; rfl) | (intros; trivial)))
    refine V.brI (fun h9 => ?_) fun h9 => ?_
    · have h9 : t < (9 : Int) := of_decide_eq_true h9
      obtain ⟨k, rfl⟩ : ∃ k : Nat, t = k := ⟨t.toNat, by omega⟩
      have hk := hfin k (by omega)
      have ek : IntKind.i64.wrap ((k : Int) + Int.ofNat 1) = ((k + 1 : Nat) : Int) := wnat (by omega)
      have ok2 : okTt ((k + 1 : Nat) : Int) := ⟨Int.natCast_nonneg _, by omega⟩
      have hμ9 : (Int.ofNat 9 - ((k + 1 : Nat) : Int)).toNat < (Int.ofNat 9 - (k : Int)).toNat := by
        simp only [Int.ofNat_eq_natCast]
        omega
      simp only [ek, Int.toNat_natCast, Nat.zero_add]
      ((repeat' first | with_reducible refine nN_h rfl ?_ | with_reducible refine V.brT ?_ | with_reducible refine V.brF ?_ | with_reducible refine V.needI ?_ ?_) <;> (try first | with_reducible exact V.okI | exact rfl | exact ⟨Nat.le_refl _, rfl⟩ | exact Nat.le_refl _ | assumption | omega | trivial | decide | (intros; rfl) | (intros; trivial)))
      · refine ⟨Int.le_refl 0, Int.natCast_nonneg _, ⟨fun q => (by cases q), fun q => q.elim⟩, fun v hv => ?_⟩
        match v, hv with
        | 0, _ => rfl
        | 1, _ => rfl
        | 2, _ => rfl
      all_goals try (intro e h1 h2; subst h2; rfl)
      refine V.anyI fun z hz => ?_
      have hz0 := hz
      obtain ⟨z1, z2, z3, z4⟩ := hz
      have hend : (¬ z.i < (lg : Int) ∨ ¬ z.i < 16) → (z.h = true ↔ hasE g k (min lg 16)) := fun q => by rw [z3, show z.i.toNat = min lg 16 by omega]
      refine V.brI (fun c1 => ?_) fun c1 => ?_
      · have c1 : z.i < (lg : Int) := of_decide_eq_true c1
        refine V.brI (fun c2 => ?_) fun c2 => ?_
        · have c2 : z.i < (16 : Int) := of_decide_eq_true c2
          obtain ⟨v1, v2, v3, v4⟩ := elv_t (hg z.i.toNat (by omega)).1
          have v1 : ((g z.i.toNat).tmod (Int.ofNat 3)).toNat = elv g z.i.toNat := v1
          have v5 := z4 _ v2
          have v6 := @cnt_bd g z.i.toNat (elv g z.i.toNat)
          have hμ : (Int.ofNat 16 - IntKind.i64.wrap (z.i + Int.ofNat 1)).toNat < (Int.ofNat 16 - z.i).toNat := by
            rw [w64 (by simp only [Int.ofNat_eq_natCast]; omega)]
            simp only [Int.ofNat_eq_natCast]
            omega
          ((repeat' first | with_reducible refine nN_h rfl ?_ | with_reducible refine V.brT ?_ | with_reducible refine V.brF ?_ | with_reducible refine V.needI ?_ ?_) <;> (try first | with_reducible exact V.okI | exact rfl | exact ⟨Nat.le_refl _, rfl⟩ | exact Nat.le_refl _ | assumption | omega | trivial | decide | (intros; rfl) | (intros; trivial)))
          all_goals try exact ⟨z1, c1⟩
          all_goals try exact ⟨Nat.zero_lt_one, by omega⟩
          all_goals try exact ⟨v3, v4⟩
          all_goals try exact (by rw [v1]; exact v2)
          refine V.brI (fun c3 => ?_) fun c3 => ?_
          · ((repeat' first | with_reducible refine nN_h rfl ?_ | with_reducible refine V.brT ?_ | with_reducible refine V.brF ?_ | with_reducible refine V.needI ?_ ?_) <;> (try first | with_reducible exact V.okI | exact rfl | exact ⟨Nat.le_refl _, rfl⟩ | exact Nat.le_refl _ | assumption | omega | trivial | decide | (intros; rfl) | (intros; trivial)))
            exact okTc_s (fun i hi => (hg i hi).1) hz0 c1 c2 ⟨fun _ => .inl c3, fun _ => rfl⟩
          · ((repeat' first | with_reducible refine nN_h rfl ?_ | with_reducible refine V.brT ?_ | with_reducible refine V.brF ?_ | with_reducible refine V.needI ?_ ?_) <;> (try first | with_reducible exact V.okI | exact rfl | exact ⟨Nat.le_refl _, rfl⟩ | exact Nat.le_refl _ | assumption | omega | trivial | decide | (intros; rfl) | (intros; trivial)))
            all_goals try exact ⟨v3, v4⟩
            all_goals try exact ⟨Nat.zero_lt_one, by rw [v1]; exact v2⟩
            have ew : IntKind.i64.wrap (z.c ((g z.i.toNat).tmod (Int.ofNat 3)).toNat + Int.ofNat 1) = z.c (elv g z.i.toNat) + 1 := by
              rw [v1, v5]
              exact w64 (by simp only [Int.ofNat_eq_natCast]; omega)
            refine V.brI (fun c4 => ?_) fun c4 => ?_
            · have c4 := of_decide_eq_true c4
              rw [if_pos ⟨trivial, trivial⟩, ew] at c4
              have c4 : z.c (elv g z.i.toNat) + 1 ≤ 8 := c4
              ((repeat' first | with_reducible refine nN_h rfl ?_ | with_reducible refine V.brT ?_ | with_reducible refine V.brF ?_ | with_reducible refine V.needI ?_ ?_) <;> (try first | with_reducible exact V.okI | exact rfl | exact ⟨Nat.le_refl _, rfl⟩ | exact Nat.le_refl _ | assumption | omega | trivial | decide | (intros; rfl) | (intros; trivial)))
              all_goals try exact ⟨z1, c1⟩
              all_goals try exact ⟨Nat.zero_lt_one, by omega⟩
              refine okTc_s (fun i hi => (hg i hi).1) hz0 c1 c2 ⟨fun q => .inr ⟨c4, eq_of_beq q⟩, fun q => ?_⟩
              rcases q with q | q
              · rw [q] at c3; cases c3
              · exact beq_iff_eq.2 q.2
            · have c4 := of_decide_eq_false c4
              rw [if_pos ⟨trivial, trivial⟩, ew] at c4
              have c4 : ¬ z.c (elv g z.i.toNat) + 1 ≤ 8 := c4
              ((repeat' first | with_reducible refine nN_h rfl ?_ | with_reducible refine V.brT ?_ | with_reducible refine V.brF ?_ | with_reducible refine V.needI ?_ ?_) <;> (try first | with_reducible exact V.okI | exact rfl | exact ⟨Nat.le_refl _, rfl⟩ | exact Nat.le_refl _ | assumption | omega | trivial | decide | (intros; rfl) | (intros; trivial)))
              refine okTc_s (fun i hi => (hg i hi).1) hz0 c1 c2 ⟨fun q => (by cases q), fun q => ?_⟩
              rcases q with q | q
              · rw [q] at c3; cases c3
              · exact absurd q.1 c4
        · have c2 : ¬ z.i < (16 : Int) := of_decide_eq_false c2
          have hh := hend (.inr c2)
          refine V.brI (fun c3 => ?_) fun c3 => ?_
          · have hE := hh.1 c3
            refine V.brI (fun c4 => ?_) fun c4 => ?_
            · have c4 : (k : Int) < (ls : Int) := of_decide_eq_true c4
              ((repeat' first | with_reducible refine nN_h rfl ?_ | with_reducible refine V.brT ?_ | with_reducible refine V.brF ?_ | with_reducible refine V.needI ?_ ?_) <;> (try first | with_reducible exact V.okI | exact rfl | exact ⟨Nat.le_refl _, rfl⟩ | exact Nat.le_refl _ | assumption | omega | trivial | decide | (intros; rfl) | (intros; trivial)))
              refine V.brI (fun c5 => ?_) fun c5 => ?_
              · have c5 : (s k).tmod 5 = 1 := eq_of_beq c5
                ((repeat' first | with_reducible refine nN_h rfl ?_ | with_reducible refine V.brT ?_ | with_reducible refine V.brF ?_ | with_reducible refine V.needI ?_ ?_) <;> (try first | with_reducible exact V.okI | exact rfl | exact ⟨Nat.le_refl _, rfl⟩ | exact Nat.le_refl _ | assumption | omega | trivial | decide | (intros; rfl) | (intros; trivial)))
                refine V.brI (fun q => (cne ((hk.resolve_right fun w => w.2 ⟨hE, by omega, c5⟩).1) q).elim) fun _ => ?_
                ((repeat' first | with_reducible refine nN_h rfl ?_ | with_reducible refine V.brT ?_ | with_reducible refine V.brF ?_ | with_reducible refine V.needI ?_ ?_) <;> (try first | with_reducible exact V.okI | exact rfl | exact ⟨Nat.le_refl _, rfl⟩ | exact Nat.le_refl _ | assumption | omega | trivial | decide | (intros; rfl) | (intros; trivial)))
              · have c5 : (s k).tmod 5 ≠ 1 := fun w => by rw [show Int.ofNat 5 = 5 from rfl, w] at c5; exact absurd c5 (by decide)
                ((repeat' first | with_reducible refine nN_h rfl ?_ | with_reducible refine V.brT ?_ | with_reducible refine V.brF ?_ | with_reducible refine V.needI ?_ ?_) <;> (try first | with_reducible exact V.okI | exact rfl | exact ⟨Nat.le_refl _, rfl⟩ | exact Nat.le_refl _ | assumption | omega | trivial | decide | (intros; rfl) | (intros; trivial)))
                refine V.brI (fun q => (cne ((hk.resolve_left fun w => c5 w.2.2.2).1) q).elim) fun _ => ?_
                ((repeat' first | with_reducible refine nN_h rfl ?_ | with_reducible refine V.brT ?_ | with_reducible refine V.brF ?_ | with_reducible refine V.needI ?_ ?_) <;> (try first | with_reducible exact V.okI | exact rfl | exact ⟨Nat.le_refl _, rfl⟩ | exact Nat.le_refl _ | assumption | omega | trivial | decide | (intros; rfl) | (intros; trivial)))
            · have c4 : ¬ (k : Int) < (ls : Int) := of_decide_eq_false c4
              ((repeat' first | with_reducible refine nN_h rfl ?_ | with_reducible refine V.brT ?_ | with_reducible refine V.brF ?_ | with_reducible refine V.needI ?_ ?_) <;> (try first | with_reducible exact V.okI | exact rfl | exact ⟨Nat.le_refl _, rfl⟩ | exact Nat.le_refl _ | assumption | omega | trivial | decide | (intros; rfl) | (intros; trivial)))
              refine V.brI (fun q => (cne ((hk.resolve_left fun w => c4 (by omega)).1) q).elim) fun _ => ?_
              ((repeat' first | with_reducible refine nN_h rfl ?_ | with_reducible refine V.brT ?_ | with_reducible refine V.brF ?_ | with_reducible refine V.needI ?_ ?_) <;> (try first | with_reducible exact V.okI | exact rfl | exact ⟨Nat.le_refl _, rfl⟩ | exact Nat.le_refl _ | assumption | omega | trivial | decide | (intros; rfl) | (intros; trivial)))
          · have hE : ¬ hasE g k (min lg 16) := fun w => by rw [hh.2 w] at c3; cases c3
            ((repeat' first | with_reducible refine nN_h rfl ?_ | with_reducible refine V.brT ?_ | with_reducible refine V.brF ?_ | with_reducible refine V.needI ?_ ?_) <;> (try first | with_reducible exact V.okI | exact rfl | exact ⟨Nat.le_refl _, rfl⟩ | exact Nat.le_refl _ | assumption | omega | trivial | decide | (intros; rfl) | (intros; trivial)))
            refine V.brI (fun q => (cne ((hk.resolve_left fun w => hE w.2.1).1) q).elim) fun _ => ?_
            ((repeat' first | with_reducible refine nN_h rfl ?_ | with_reducible refine V.brT ?_ | with_reducible refine V.brF ?_ | with_reducible refine V.needI ?_ ?_) <;> (try first | with_reducible exact V.okI | exact rfl | exact ⟨Nat.le_refl _, rfl⟩ | exact Nat.le_refl _ | assumption | omega | trivial | decide | (intros; rfl) | (intros; trivial)))
      · have c1 : ¬ z.i < (lg : Int) := of_decide_eq_false c1
        have hh := hend (.inl c1)
        refine V.brI (fun c3 => ?_) fun c3 => ?_
        · have hE := hh.1 c3
          refine V.brI (fun c4 => ?_) fun c4 => ?_
          · have c4 : (k : Int) < (ls : Int) := of_decide_eq_true c4
            ((repeat' first | with_reducible refine nN_h rfl ?_ | with_reducible refine V.brT ?_ | with_reducible refine V.brF ?_ | with_reducible refine V.needI ?_ ?_) <;> (try first | with_reducible exact V.okI | exact rfl | exact ⟨Nat.le_refl _, rfl⟩ | exact Nat.le_refl _ | assumption | omega | trivial | decide | (intros; rfl) | (intros; trivial)))
            refine V.brI (fun c5 => ?_) fun c5 => ?_
            · have c5 : (s k).tmod 5 = 1 := eq_of_beq c5
              ((repeat' first | with_reducible refine nN_h rfl ?_ | with_reducible refine V.brT ?_ | with_reducible refine V.brF ?_ | with_reducible refine V.needI ?_ ?_) <;> (try first | with_reducible exact V.okI | exact rfl | exact ⟨Nat.le_refl _, rfl⟩ | exact Nat.le_refl _ | assumption | omega | trivial | decide | (intros; rfl) | (intros; trivial)))
              refine V.brI (fun q => (cne ((hk.resolve_right fun w => w.2 ⟨hE, by omega, c5⟩).1) q).elim) fun _ => ?_
              ((repeat' first | with_reducible refine nN_h rfl ?_ | with_reducible refine V.brT ?_ | with_reducible refine V.brF ?_ | with_reducible refine V.needI ?_ ?_) <;> (try first | with_reducible exact V.okI | exact rfl | exact ⟨Nat.le_refl _, rfl⟩ | exact Nat.le_refl _ | assumption | omega | trivial | decide | (intros; rfl) | (intros; trivial)))
            · have c5 : (s k).tmod 5 ≠ 1 := fun w => by rw [show Int.ofNat 5 = 5 from rfl, w] at c5; exact absurd c5 (by decide)
              ((repeat' first | with_reducible refine nN_h rfl ?_ | with_reducible refine V.brT ?_ | with_reducible refine V.brF ?_ | with_reducible refine V.needI ?_ ?_) <;> (try first | with_reducible exact V.okI | exact rfl | exact ⟨Nat.le_refl _, rfl⟩ | exact Nat.le_refl _ | assumption | omega | trivial | decide | (intros; rfl) | (intros; trivial)))
              refine V.brI (fun q => (cne ((hk.resolve_left fun w => c5 w.2.2.2).1) q).elim) fun _ => ?_
              ((repeat' first | with_reducible refine nN_h rfl ?_ | with_reducible refine V.brT ?_ | with_reducible refine V.brF ?_ | with_reducible refine V.needI ?_ ?_) <;> (try first | with_reducible exact V.okI | exact rfl | exact ⟨Nat.le_refl _, rfl⟩ | exact Nat.le_refl _ | assumption | omega | trivial | decide | (intros; rfl) | (intros; trivial)))
          · have c4 : ¬ (k : Int) < (ls : Int) := of_decide_eq_false c4
            ((repeat' first | with_reducible refine nN_h rfl ?_ | with_reducible refine V.brT ?_ | with_reducible refine V.brF ?_ | with_reducible refine V.needI ?_ ?_) <;> (try first | with_reducible exact V.okI | exact rfl | exact ⟨Nat.le_refl _, rfl⟩ | exact Nat.le_refl _ | assumption | omega | trivial | decide | (intros; rfl) | (intros; trivial)))
            refine V.brI (fun q => (cne ((hk.resolve_left fun w => c4 (by omega)).1) q).elim) fun _ => ?_
            ((repeat' first | with_reducible refine nN_h rfl ?_ | with_reducible refine V.brT ?_ | with_reducible refine V.brF ?_ | with_reducible refine V.needI ?_ ?_) <;> (try first | with_reducible exact V.okI | exact rfl | exact ⟨Nat.le_refl _, rfl⟩ | exact Nat.le_refl _ | assumption | omega | trivial | decide | (intros; rfl) | (intros; trivial)))
        · have hE : ¬ hasE g k (min lg 16) := fun w => by rw [hh.2 w] at c3; cases c3
          ((repeat' first | with_reducible refine nN_h rfl ?_ | with_reducible refine V.brT ?_ | with_reducible refine V.brF ?_ | with_reducible refine V.needI ?_ ?_) <;> (try first | with_reducible exact V.okI | exact rfl | exact ⟨Nat.le_refl _, rfl⟩ | exact Nat.le_refl _ | assumption | omega | trivial | decide | (intros; rfl) | (intros; trivial)))
          refine V.brI (fun q => (cne ((hk.resolve_left fun w => hE w.2.1).1) q).elim) fun _ => ?_
          ((repeat' first | with_reducible refine nN_h rfl ?_ | with_reducible refine V.brT ?_ | with_reducible refine V.brF ?_ | with_reducible refine V.needI ?_ ?_) <;> (try first | with_reducible exact V.okI | exact rfl | exact ⟨Nat.le_refl _, rfl⟩ | exact Nat.le_refl _ | assumption | omega | trivial | decide | (intros; rfl) | (intros; trivial)))
    · obtain ⟨n1, n2, -⟩ := entT (c := cT (Int.ofNat 1) (Int.ofNat 1) (Int.ofNat 1) (Int.ofNat 8)) ⟨rfl, rfl, rfl, rfl⟩ q5 (v := 0) (by decide)
      have n1 : entN (cT (Int.ofNat 1) (Int.ofNat 1) (Int.ofNat 1) (Int.ofNat 8)) R.r.m.g (Int.ofNat 0) = 0 := n1
      ((repeat' first | with_reducible refine nN_h rfl ?_ | with_reducible refine V.brT ?_ | with_reducible refine V.brF ?_ | with_reducible refine V.needI ?_ ?_) <;> (try first | with_reducible exact V.okI | exact rfl | exact ⟨Nat.le_refl _, rfl⟩ | exact Nat.le_refl _ | assumption | omega | trivial | decide | (intros; rfl) | (intros; trivial)))
      all_goals try exact ⟨83, Nat.le_refl _⟩
      refine V.anyI fun nc2 hnc2 => ?_
      simp only [entN_t, n1]
      ((repeat' first | with_reducible refine nN_h rfl ?_ | with_reducible refine V.brT ?_ | with_reducible refine V.brF ?_ | with_reducible refine V.needI ?_ ?_) <;> (try first | with_reducible exact V.okI | exact rfl | exact ⟨Nat.le_refl _, rfl⟩ | exact Nat.le_refl _ | assumption | omega | trivial | decide | (intros; rfl) | (intros; trivial)))
      · refine ⟨?_, rfl, ⟨show (0 : Int) ≤ 0 by decide, show (0 : Int) < 3 by decide⟩, q5.ws.wf.ok⟩
        refine err9 ?_ rfl rfl rfl
        unfold okN
        dsimp only
        simp only [Int.ofNat_eq_natCast]
        omega
      have hbm : R.r.m.val 83 (Int.ofNat 7) = 0 := by
        rw [Mm.val_eq (by decide) (by decide)]
        exact q4
      refine V.brI (fun h => absurd (of_decide_eq_true h) (fun w => absurd w.1 (by decide))) fun _ => ?_
      ((repeat' first | with_reducible refine nN_h rfl ?_ | with_reducible refine V.brT ?_ | with_reducible refine V.brF ?_ | with_reducible refine V.needI ?_ ?_) <;> (try first | with_reducible exact V.okI | exact rfl | exact ⟨Nat.le_refl _, rfl⟩ | exact Nat.le_refl _ | assumption | omega | trivial | decide | (intros; rfl) | (intros; trivial)))
      refine V.anyI fun v hv => ?_
      rw [hv, hbm]
      ((repeat' first | with_reducible refine nN_h rfl ?_ | with_reducible refine V.brT ?_ | with_reducible refine V.brF ?_ | with_reducible refine V.needI ?_ ?_) <;> (try first | with_reducible exact V.okI | exact rfl | exact ⟨Nat.le_refl _, rfl⟩ | exact Nat.le_refl _ | assumption | omega | trivial | decide | (intros; rfl) | (intros; trivial)))
  · rcases hres with ⟨q1, -⟩ | ⟨q1, q2, q3, p', q4, q5, q6, q7⟩
    · rw [q1] at hc
      exact absurd hc (by decide)
    have c0 : x.cl R.r.v.toNat = 0 ∨ x.cl R.r.v.toNat = 1 := by
      by_cases c : clm L S p R.r.v.toNat ∧ sta R.r.v.toNat = 1
      · exact .inr (hTL.one _ (by omega) c.1 c.2)
      · exact .inl (hTL.zero _ (by omega) c)
    have ew : IntKind.i64.wrap (x.cl R.r.v.toNat + Int.ofNat 1) = x.cl R.r.v.toNat + 1 := w64 (by simp only [Int.ofNat_eq_natCast]; omega)
    have ei : IntKind.i64.wrap (x.i + Int.ofNat 1) = x.i + 1 := w64 (by simp only [Int.ofNat_eq_natCast]; omega)
    refine V.brI (fun h => (dlt (by show ¬ R.r.v < (0 : Int); omega) h).elim) fun _ => ?_
    ((repeat' first | with_reducible refine nN_h rfl ?_ | with_reducible refine V.brT ?_ | with_reducible refine V.brF ?_ | with_reducible refine V.needI ?_ ?_) <;> (try first | with_reducible exact V.okI | exact rfl | exact ⟨Nat.le_refl _, rfl⟩ | exact Nat.le_refl _ | assumption | omega | trivial | decide | (intros; rfl) | (intros; trivial)))
    refine V.brI (fun h => (dge (by show ¬ R.r.v ≥ (9 : Int); omega) h).elim) fun _ => ?_
    simp only [Nat.zero_add, ew, ei]
    ((repeat' first | with_reducible refine nN_h rfl ?_ | with_reducible refine V.brT ?_ | with_reducible refine V.brF ?_ | with_reducible refine V.needI ?_ ?_) <;> (try first | with_reducible exact V.okI | exact rfl | exact ⟨Nat.le_refl _, rfl⟩ | exact Nat.le_refl _ | assumption | omega | trivial | decide | (intros; rfl) | (intros; trivial)))
    · refine ⟨by show (0 : Int) ≤ x.i + 1; omega, by show x.i + 1 ≤ 30; omega, ⟨bd, p', by show x.i + 1 ≤ (p' : Int); omega, q5, by show R.r.l.n ≤ p'; omega, ?_⟩, hnc⟩
      have e : (fun i => if True ∧ i = R.r.v.toNat then x.cl R.r.v.toNat + 1 else x.cl i) = fun t => if t = R.r.v.toNat then x.cl R.r.v.toNat + 1 else x.cl t := by
        funext t
        simp only [true_and]
      show TL bd L S sta p' R.r.m (fun i => if True ∧ i = R.r.v.toNat then x.cl R.r.v.toNat + 1 else x.cl i)
      rw [e]
      exact q7
    · simp only [Int.ofNat_eq_natCast]
      omega
theorem wf8l {n : Int} (h : (Lit.int .u8 n).wf = true) : 0 ≤ n ∧ n ≤ 255 := by
  simp [Lit.wf, IntKind.min, IntKind.max, IntKind.bits, IntKind.signed] at h; omega
theorem walkTl (a : Option Addr) (len cap : Nat) (g : Nat → Int) (b : Option Addr) (pn pc : Nat) (p : Nat → Int) (W : World) (h : IsInts .u8 W a len cap g) (h' : IsInts .u8 W b pn pc p) :
    Calls P 24 #[.slice a len cap, .slice b pn pc] W fun e w' => e = .returned (.bool true) ∧ Below W.heap.size W w' := by
  refine calls_yesV (vs := [.slice a len cap, .slice b pn pc]) con24l_ok (ρ := fun k i => if k = 0 ∧ i = 0 then addr0 a else if k = 1 ∧ i = 0 then addr0 b else none) (vhTl (g := g) (s := p) (lg := len) (cg := cap) (ls := pn) (cs := pc) (fun e he => wf8l (h.fits e he)) fun e he => wf8l (h'.fits e he)) (views_inv fun k b' hk => ?_) ⟨h.val (by simp) ⟨Nat.le_of_ble_eq_true rfl, trivial⟩, h'.val (by simp) ⟨Nat.le_of_ble_eq_true rfl, trivial⟩, trivial⟩
  rw [find_cons] at hk
  split at hk
  · rename_i e; subst e
    cases hk
    exact ⟨rfl, by decide, h.sat (by simp)⟩
  rw [find_cons] at hk
  split at hk
  · rename_i e; subst e
    cases hk
    exact ⟨rfl, by decide, h'.sat (by simp)⟩
  · cases hk
end Go.Proofs.Ytomaagmleafjeaa.Md
