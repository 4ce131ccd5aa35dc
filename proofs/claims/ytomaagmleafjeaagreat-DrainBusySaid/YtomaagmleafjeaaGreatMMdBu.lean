/- DrainBusy: the conditions, printed by program. -/
import Derived.Test.YtomaagmleafjeaaGreatMMdBuD
import Derived.Test.YtomaagmleafjeaaGreatMW
import Derived.Test.YtomaagmleafjeaaGreatMMdFilL
import Derived.Test.YtomaagmleafjeaaGreatMMdBr
set_option linter.unusedVariables false
set_option linter.unusedSimpArgs false
set_option linter.unusedVariables false
set_option maxRecDepth 100000
namespace Go.Proofs.YtomaagmleafjeaaGreat.Md
open Go Go.RowKit Sx Cn Dc Ck Vc

theorem verBu_eq (g : Nat → Int) (len cap : Nat) (h : Int) : verBu g len cap h =
  V.need ((U8 0 fun (x : Nat) => Int.ofNat 0) ∧ 0 ≤ 9)
    (V.need (∃ (x : Nat × Nat × (Nat → Nat)), 1 ≤ x.fst)
    (V.any (Nat × Nat × (Nat → Nat)) (fun (x : Nat × Nat × (Nat → Nat)) => 1 ≤ x.fst) fun (x : Nat × Nat × (Nat → Nat)) => nN [(2, .eqI 2 2), (1, .eq 1 1), qE x.fst, (1, .eq 0 0), qE x.snd.fst, qE len, qE cap, (1, .le 1 1)]
    (V.need (1 ≤ 1 ∧ 1 ≤ x.fst)
    (nN [(1, .pf (∀ (i e : Nat), i = 0 ∧ e < 1 → e = e) (by intros; rfl)), (1, .pf (∀ (i e : Nat), i = 0 ∧ e < 1 → 0 = 0) (by intros; rfl)), (1, .pf (∀ (i e : Nat), i = 0 ∧ e < 1 → x.snd.snd e = x.snd.snd e) (by intros; rfl)), (1, .le 1 1)]
    (V.need (0 ≤ 0 ∧ 0 ≤ x.snd.fst)
    (nN [(1, .pf (∀ (i e : Nat), i = 0 ∧ e < 0 → uP (fun (x : Nat) => Int.ofNat 0) 0 e = uP (fun (x : Nat) => Int.ofNat 0) 0 e) (by intros; rfl)), (1, .pf (∀ (i e : Nat), i = 0 ∧ e < 0 → uL (fun (x : Nat) => Int.ofNat 0) 0 e = uL (fun (x : Nat) => Int.ofNat 0) 0 e) (by intros; rfl)), (1, .pf (∀ (i e : Nat), i = 0 ∧ e < 0 → uD (fun (x : Nat) => Int.ofNat 0) 0 e = uD (fun (x : Nat) => Int.ofNat 0) 0 e) (by intros; rfl))]
    (V.need (∀ (i : Nat), i < 1 → 0 ≤ gd 1 (fun (x : Nat) => 0) i ∧ 0 ≤ gd 1 x.snd.snd i)
    (nN [(1, .pf (∀ (i e : Nat), i < 1 ∧ e < 0 → cO (fun (x : Nat) => Int.ofNat 0) 0 i e = cO (fun (x : Nat) => Int.ofNat 0) 0 i e) (by intros; rfl)), (1, .pf (∀ (i e : Nat), i < 1 ∧ e < 0 → cA (fun (x : Nat) => Int.ofNat 0) 0 i e = cA (fun (x : Nat) => Int.ofNat 0) 0 i e) (by intros; rfl)), (1, .pf (∀ (i e : Nat), i < 1 ∧ e < 0 → cB (fun (x : Nat) => Int.ofNat 0) 0 i e = cB (fun (x : Nat) => Int.ofNat 0) 0 i e) (by intros; rfl)), (1, .le 1 1), (1, .pf (∀ (i : Nat), i < 1 → len ≤ len) (by intros; exact Nat.le_refl _)), (1, .pf (∀ (i e : Nat), i < 1 ∧ e < len → g e = g e) (by intros; rfl))]
    (V.need (errE (c23 (Cf.mk (Int.ofNat 1) (Int.ofNat 3) (Int.ofNat 1) (Int.ofNat 8) (Int.ofNat 2) (Int.ofNat 8) (Int.ofNat 2) (Int.ofNat 0) (Int.ofNat 1) 1 x.fst 0 x.snd.fst (fun (e : Nat) => 0) x.snd.snd (fun (i e : Nat) => cO (fun (x : Nat) => Int.ofNat 0) 0 i e) (fun (i e : Nat) => cA (fun (x : Nat) => Int.ofNat 0) 0 i e) (fun (i e : Nat) => cB (fun (x : Nat) => Int.ofNat 0) 0 i e) (fun (e : Nat) => uP (fun (x : Nat) => Int.ofNat 0) 0 e) (fun (e : Nat) => uL (fun (x : Nat) => Int.ofNat 0) 0 e) fun (e : Nat) => uD (fun (x : Nat) => Int.ofNat 0) 0 e)) = Int.ofNat 0)
    (V.need (∃ (x_1 : XFl), φFl (Cf.mk (Int.ofNat 1) (Int.ofNat 3) (Int.ofNat 1) (Int.ofNat 8) (Int.ofNat 2) (Int.ofNat 8) (Int.ofNat 2) (Int.ofNat 0) (Int.ofNat 1) 1 x.fst 0 x.snd.fst (fun (e : Nat) => 0) x.snd.snd (fun (i e : Nat) => cO (fun (x : Nat) => Int.ofNat 0) 0 i e) (fun (i e : Nat) => cA (fun (x : Nat) => Int.ofNat 0) 0 i e) (fun (i e : Nat) => cB (fun (x : Nat) => Int.ofNat 0) 0 i e) (fun (e : Nat) => uP (fun (x : Nat) => Int.ofNat 0) 0 e) (fun (e : Nat) => uL (fun (x : Nat) => Int.ofNat 0) 0 e) fun (e : Nat) => uD (fun (x : Nat) => Int.ofNat 0) 0 e) g len x_1)
    (V.any XFl (φFl (Cf.mk (Int.ofNat 1) (Int.ofNat 3) (Int.ofNat 1) (Int.ofNat 8) (Int.ofNat 2) (Int.ofNat 8) (Int.ofNat 2) (Int.ofNat 0) (Int.ofNat 1) 1 x.fst 0 x.snd.fst (fun (e : Nat) => 0) x.snd.snd (fun (i e : Nat) => cO (fun (x : Nat) => Int.ofNat 0) 0 i e) (fun (i e : Nat) => cA (fun (x : Nat) => Int.ofNat 0) 0 i e) (fun (i e : Nat) => cB (fun (x : Nat) => Int.ofNat 0) 0 i e) (fun (e : Nat) => uP (fun (x : Nat) => Int.ofNat 0) 0 e) (fun (e : Nat) => uL (fun (x : Nat) => Int.ofNat 0) 0 e) fun (e : Nat) => uD (fun (x : Nat) => Int.ofNat 0) 0 e) g len) fun (x : XFl) => V.need True
    (nN [(1, .eqI 1 1), qE (IntKind.u64.wrap (Int.ofNat 1 + IntKind.u64.wrap h)), qE x.n, qE x.n, qE x.m.lk, qE x.m.lc, qE x.m.lo, qE x.m.ln, qE x.m.ct, qE x.n, qL x.n, qF x.n x.m.g, qX (x.m.acc x.n (Int.ofNat 2) (Int.ofNat 1) (IntKind.u64.wrap (Int.ofNat 1 + IntKind.u64.wrap h)))]
    (V.any Mm (fun (m' : Mm) => m' = x.m.acc x.n (Int.ofNat 2) (Int.ofNat 1) (IntKind.u64.wrap (Int.ofNat 1 + IntKind.u64.wrap h))) fun (x_1 : Mm) => nN [qE x.n, qE x.n, (1, .le 1 1)]
    (V.need (x.n ≤ x.n ∧ x.n ≤ x.n)
    (nN [(1, .pf (∀ (i e : Nat), i = 0 ∧ e < x.n → x_1.g e = x_1.g e) (by intros; rfl))]
    (V.need (x.n ≤ 1000000)
    (V.need (∃ (x_2 : Nat), x.n ≤ x_2)
    (V.any Nat (fun (c : Nat) => x.n ≤ c) fun (x_2 : Nat) => V.need (Int.ofNat 300 = (↑300 : Int))
    (nN [(1, .eqI 1 1), (1, .eqI 3 3), (1, .eqI 8 8), (1, .eqI 2 2), (1, .eqI 8 8), (1, .eqI 2 2), (1, .eqI 0 0), (1, .eqI 1 1), qE x.d.nP, qE x.d.rc, qE x.d.nU, qE x.d.cu, (1, .eqI 1 1), (1, .eqI 3 3), (1, .eqI 1 1), (1, .eqI 8 8), (1, .eqI 2 2), (1, .eqI 8 8), (1, .eqI 12 12), (1, .eqI 13 13), (1, .eqI 14 14), (1, .eqI 15 15), qE x.tb, (2, .eq 0 0), qE x.n, qE x.n, qE x_1.lk, qE x_1.lc, qE x_1.lo, qE x_1.ln, qE x_1.ct, qE x.n, qL x.n, qF x.n x_1.g, (1, .eq 0 0), (1, .le 0 0), qF 0 (fun (e : Nat) => Int.ofNat 0), qF 0 (fun (e : Nat) => Int.ofNat 0), qF 0 (fun (e : Nat) => Int.ofNat 0), qF 0 (fun (e : Nat) => Int.ofNat 0), qF 0 (fun (e : Nat) => Int.ofNat 0), (1, .le 0 1)]
    (V.need (0 ≤ x.d.nP ∧ 0 ≤ x.d.rc)
    (nN [(1, .le 0 1)]
    (V.need (0 ≤ x.d.nU ∧ 0 ≤ x.d.cu)
    (nN [(1, .eqI 0 0)]
    (V.need (preDr (Ly.mk (Int.ofNat 1) (Int.ofNat 3) (Int.ofNat 1) (Int.ofNat 8) (Int.ofNat 2) (Int.ofNat 8) (Int.ofNat 12) (Int.ofNat 13) (Int.ofNat 14) (Int.ofNat 15) x.tb) (Int.ofNat 2) x.n (Int.ofNat 0) 300 x_1 (El.mk 0 (Evs.mk (fun (i : Nat) => Int.ofNat 0) (fun (i : Nat) => Int.ofNat 0) (fun (i : Nat) => Int.ofNat 0) (fun (i : Nat) => Int.ofNat 0) fun (i : Nat) => Int.ofNat 0)) 0)
    (V.need (∃ (x_3 : Re × Nat), φDr (Ly.mk (Int.ofNat 1) (Int.ofNat 3) (Int.ofNat 1) (Int.ofNat 8) (Int.ofNat 2) (Int.ofNat 8) (Int.ofNat 12) (Int.ofNat 13) (Int.ofNat 14) (Int.ofNat 15) x.tb) (Int.ofNat 2) x.n (Int.ofNat 0) 300 x_1 (El.mk 0 (Evs.mk (fun (i : Nat) => Int.ofNat 0) (fun (i : Nat) => Int.ofNat 0) (fun (i : Nat) => Int.ofNat 0) (fun (i : Nat) => Int.ofNat 0) fun (i : Nat) => Int.ofNat 0)) x_3)
    (V.any (Re × Nat) (φDr (Ly.mk (Int.ofNat 1) (Int.ofNat 3) (Int.ofNat 1) (Int.ofNat 8) (Int.ofNat 2) (Int.ofNat 8) (Int.ofNat 12) (Int.ofNat 13) (Int.ofNat 14) (Int.ofNat 15) x.tb) (Int.ofNat 2) x.n (Int.ofNat 0) 300 x_1 (El.mk 0 (Evs.mk (fun (i : Nat) => Int.ofNat 0) (fun (i : Nat) => Int.ofNat 0) (fun (i : Nat) => Int.ofNat 0) (fun (i : Nat) => Int.ofNat 0) fun (i : Nat) => Int.ofNat 0))) fun (x_3 : Re × Nat) => nN [qE x.n, qE x.n, (1, .le 1 1)]
    (V.need (x.n ≤ x.n ∧ x.n ≤ x.n)
    (nN [(1, .pf (∀ (i e : Nat), i = 0 ∧ e < x.n → x_3.fst.m.g e = x_3.fst.m.g e) (by intros; rfl))]
    (V.need (x.n ≤ 1000000)
    (V.need (∃ (x_4 : Nat), x.n ≤ x_4)
    (V.any Nat (fun (c : Nat) => x.n ≤ c) fun (x_4 : Nat) => V.need (Nat.le 0 x.n)
    (V.need (Int.ofNat 0 = (↑0 : Int))
    (V.any Nat (fun (j : Nat) => j ≤ x.n) fun (x_5 : Nat) => V.br (decide ((↑x_5 : Int) < (↑x.n : Int)))
    (V.br (decide ((↑x_5 : Int) < (↑x.n : Int)))
    (V.need (Int.ofNat 0 ≤ (↑x_5 : Int) ∧ (↑x_5 : Int) < (↑x.n : Int))
    (V.need (0 < 1 ∧ 0 + (↑x_5 : Int).toNat < x.n)
    (V.need (0 < 1 ∧ 0 + (↑x_5 : Int).toNat < x.n)
    (V.need (Int.ofNat 0 ≤ (↑x_5 : Int) ∧ (↑x_5 : Int) < (↑x.n : Int))
    (V.need (0 < 1 ∧ 0 + (↑x_5 : Int).toNat < x.n)
    (V.need (0 < 1 ∧ 0 + (↑x_5 : Int).toNat < x.n)
    (V.br (x_1.g (0 + (↑x_5 : Int).toNat) != x_3.fst.m.g (0 + (↑x_5 : Int).toNat))
    (V.bad 420)
    (V.need ((IntKind.i64.wrap ((↑x_5 : Int) + Int.ofNat 1)).toNat.le x.n)
    (V.need (x.n - (IntKind.i64.wrap ((↑x_5 : Int) + Int.ofNat 1)).toNat < x.n - x_5)
    (V.need (IntKind.i64.wrap ((↑x_5 : Int) + Int.ofNat 1) = (↑(IntKind.i64.wrap ((↑x_5 : Int) + Int.ofNat 1)).toNat : Int)) V.ok))))))))))
    (V.br ((↑len : Int) == Int.ofNat 0)
    (V.br (x_3.fst.c == Int.ofNat 2)
    (V.need ((x_3.fst.k == Int.ofNat 1) = true) V.ok)
    (V.bad 420))
    (V.br (x_3.fst.c == Int.ofNat 5)
    (V.need ((x_3.fst.k == Int.ofNat 2) = true) V.ok)
    (V.bad 420))))
    (V.br ((↑len : Int) == Int.ofNat 0)
    (V.br (x_3.fst.c == Int.ofNat 2)
    (V.need ((x_3.fst.k == Int.ofNat 1) = true) V.ok)
    (V.bad 420))
    (V.br (x_3.fst.c == Int.ofNat 5)
    (V.need ((x_3.fst.k == Int.ofNat 2) = true) V.ok)
    (V.bad 420)))))))))))))))))))))))))))))))))))) := by kernel_rfl


end Go.Proofs.YtomaagmleafjeaaGreat.Md

/- DrainBusy: the conditions hold; the walk. -/
set_option linter.unusedVariables false
set_option linter.unusedSimpArgs false
set_option maxRecDepth 100000
namespace Go.Proofs.YtomaagmleafjeaaGreat.Md
open Go Go.RowKit Sx Cn Dc Ck Vc
set_option maxHeartbeats 8000000 in
theorem vhBu {g : Nat → Int} {len cap : Nat} {h : Int} (hh : 0 ≤ h ∧ h ≤ 255) : VHolds (verBu g len cap h) := by
  constructor
  rw [verBu_eq]
  have eh : IntKind.u64.wrap (Int.ofNat 1 + IntKind.u64.wrap h) = 1 + h := by
    rw [wu64 (n := h) (by omega)]
    exact wu64 (n := 1 + h) (by omega)
  simp only [eh]
  (repeat' first | with_reducible exact V.okI | with_reducible refine V.anyCfg ?_ | with_reducible refine V.anyMm ?_ | with_reducible refine V.anyInt ?_ | with_reducible refine V.anyNat ?_ | with_reducible refine V.anyCl' ?_ | with_reducible refine nN_h rfl ?_ | with_reducible refine V.needI ?_ ?_ | with_reducible intro _)
  all_goals first
    | (first | rfl | exact True.intro | exact ⟨u8_0, by decide⟩ | exact ⟨(1, 0, fun _ => 0), Nat.le_refl _⟩ | exact ⟨Nat.le_refl _, by assumption⟩ | exact Nat.zero_le _ | exact ⟨Nat.zero_le _, Nat.zero_le _⟩ | exact ⟨(_, _), is_cl _, Nat.le_refl _⟩ | exact err9 (by unfold okN; simp only [Int.ofNat_eq_natCast]; omega) rfl rfl rfl | decide)
    | exact err23 (by unfold okN c23; dsimp only; simp only [Int.ofNat_eq_natCast]; omega) rfl rfl rfl
    | exact ex_fl
    | exact ⟨u8_0, by decide⟩
    | omega
    | skip
  refine V.anyI fun x hx => ?_
  obtain ⟨d, rc, n, tb, m⟩ := x
  obtain ⟨hcl, hrc, ⟨hn, ht⟩, hm⟩ := hx
  dsimp only at hcl hrc hn ht hm ⊢
  have hn : 12 ≤ n ∧ n ≤ 1000 := by
    have := ncN23 (c := Cf.mk 1 3 1 8 2 8 2 0 1 0 0 0 0 (fun _ => 0) (fun _ => 0) (fun _ _ => 0) (fun _ _ => 0) (fun _ _ => 0) (fun _ => 0) (fun _ => 0) (fun _ => 0)) (by decide)
    have h2 : ((ncN (c23 (Cf.mk 1 3 1 8 2 8 2 0 1 0 0 0 0 (fun _ => 0) (fun _ => 0) (fun _ _ => 0) (fun _ _ => 0) (fun _ _ => 0) (fun _ => 0) (fun _ => 0) (fun _ => 0))) : Nat) : Int) = 61 + 3 * 2 := this
    have h3 : n = ncN (c23 (Cf.mk 1 3 1 8 2 8 2 0 1 0 0 0 0 (fun _ => 0) (fun _ => 0) (fun _ _ => 0) (fun _ _ => 0) (fun _ _ => 0) (fun _ => 0) (fun _ => 0) (fun _ => 0))) := hn
    omega
  have ht : tb = 27 := by rw [ht, lT23]; rfl
  subst ht
  have hm : m = filM 2 27 n g (min len 8) := hm
  have hsz := (fil_sz (D := 2) (tb := 27) (n := n) (g := g) (i := min len 8) (by omega) (by decide) (by omega)).1
  rw [← hm] at hsz
  clear hm hcl
  ((repeat' first | with_reducible refine nN_h rfl ?_ | with_reducible refine V.brT ?_ | with_reducible refine V.brF ?_ | with_reducible refine V.needI ?_ ?_) <;> (try first | with_reducible exact V.okI | exact rfl | exact ⟨Nat.le_refl _, rfl⟩ | exact Nat.le_refl _ | assumption | omega | trivial | decide | (intros; rfl) | (intros; trivial)))
  refine V.anyI fun m1 hm1 => ?_
  have z2 : m1.g 2 = ((min len 8 : Nat) : Int) := by rw [hm1, Mm.acc_ne (by decide)]; exact hsz
  have z1 : m1.g 1 ≠ 0 := by
    have : m1.g 1 = 1 + h := by rw [hm1]; exact Mm.acc_eq (a := 1) (by decide) (by omega) rfl
    omega
  obtain ⟨R, r1, r2, r3, r4, r5⟩ := dr_busy (D := 2) (tb := 27) (n := n) (m := m1) (l := e0) (N := min len 8) (B := 2) (by omega) (by omega) z2 z1
  have hy : DrOK (yF 2 27) 0 := drOKF (by decide) (by decide)
  ((repeat' first | with_reducible refine nN_h rfl ?_ | with_reducible refine V.brT ?_ | with_reducible refine V.brF ?_ | with_reducible refine V.needI ?_ ?_) <;> (try first | with_reducible exact V.okI | exact rfl | exact ⟨Nat.le_refl _, rfl⟩ | exact Nat.le_refl _ | assumption | omega | trivial | decide | (intros; rfl) | (intros; trivial)))
  · exact ⟨_, Nat.le_refl _⟩
  refine V.anyI fun c1 hc1 => ?_
  ((repeat' first | with_reducible refine nN_h rfl ?_ | with_reducible refine V.brT ?_ | with_reducible refine V.brF ?_ | with_reducible refine V.needI ?_ ?_) <;> (try first | with_reducible exact V.okI | exact rfl | exact ⟨Nat.le_refl _, rfl⟩ | exact Nat.le_refl _ | assumption | omega | trivial | decide | (intros; rfl) | (intros; trivial)))
  · exact ⟨hy, by decide, ⟨Nat.le_refl _, by decide⟩, R, r1⟩
  · exact ⟨(R, R.l.n), r1, Nat.le_refl _⟩
  refine V.anyI fun r hr => ?_
  obtain ⟨r, nr⟩ := r
  obtain ⟨hr, hnr⟩ := hr
  obtain rfl : R = r := Option.some.inj (r1.symm.trans hr)
  dsimp only at hnr ⊢
  ((repeat' first | with_reducible refine nN_h rfl ?_ | with_reducible refine V.brT ?_ | with_reducible refine V.brF ?_ | with_reducible refine V.needI ?_ ?_) <;> (try first | with_reducible exact V.okI | exact rfl | exact ⟨Nat.le_refl _, rfl⟩ | exact Nat.le_refl _ | assumption | omega | trivial | decide | (intros; rfl) | (intros; trivial)))
  · exact ⟨_, Nat.le_refl _⟩
  refine V.anyI fun c2 hc2 => ?_
  ((repeat' first | with_reducible refine nN_h rfl ?_ | with_reducible refine V.brT ?_ | with_reducible refine V.brF ?_ | with_reducible refine V.needI ?_ ?_) <;> (try first | with_reducible exact V.okI | exact rfl | exact ⟨Nat.le_refl _, rfl⟩ | exact Nat.le_refl _ | assumption | omega | trivial | decide | (intros; rfl) | (intros; trivial)))
  · exact Nat.zero_le _
  refine V.anyI fun j hj => ?_
  have hj : j ≤ n := hj
  have fin : ∀ {k : V} , (V.br ((len : Int) == Int.ofNat 0) (V.br (R.c == Int.ofNat 2) (V.need ((R.k == Int.ofNat 1) = true) V.ok) (V.bad 420)) (V.br (R.c == Int.ofNat 5) (V.need ((R.k == Int.ofNat 2) = true) V.ok) (V.bad 420))).holds := by
    intro k
    refine V.brI (fun h0 => ?_) fun h0 => ?_
    · have h0 : len = 0 := by have : (len : Int) = 0 := eq_of_beq h0; omega
      obtain ⟨q1, q2⟩ := r4 (by omega)
      rw [q1, q2]
      exact V.brI (fun _ => V.needI rfl V.okI) (fun h => absurd h (by decide))
    · have h0 : len ≠ 0 := fun e => by rw [e] at h0; exact absurd h0 (by decide)
      obtain ⟨q1, q2⟩ := r5 (by omega)
      rw [q1, q2]
      exact V.brI (fun _ => V.needI rfl V.okI) (fun h => absurd h (by decide))
  refine V.brI (fun hi => ?_) fun hi => ?_
  · have hi : j < n := by have := of_decide_eq_true hi; omega
    have ej : IntKind.i64.wrap ((j : Int) + Int.ofNat 1) = ((j + 1 : Nat) : Int) := wnat (by omega)
    simp only [ej, Int.toNat_natCast, Nat.zero_add]
    ((repeat' first | with_reducible refine nN_h rfl ?_ | with_reducible refine V.brT ?_ | with_reducible refine V.brF ?_ | with_reducible refine V.needI ?_ ?_) <;> (try first | with_reducible exact V.okI | exact rfl | exact ⟨Nat.le_refl _, rfl⟩ | exact Nat.le_refl _ | assumption | omega | trivial | decide | (intros; rfl) | (intros; trivial)))
    refine V.brI (fun _ => ?_) fun h => absurd hi (by have := of_decide_eq_false h; omega)
    ((repeat' first | with_reducible refine nN_h rfl ?_ | with_reducible refine V.brT ?_ | with_reducible refine V.brF ?_ | with_reducible refine V.needI ?_ ?_) <;> (try first | with_reducible exact V.okI | exact rfl | exact ⟨Nat.le_refl _, rfl⟩ | exact Nat.le_refl _ | assumption | omega | trivial | decide | (intros; rfl) | (intros; trivial)))
    all_goals try exact ⟨Int.natCast_nonneg _, by omega⟩
    all_goals try exact ⟨Nat.zero_lt_one, hi⟩
    refine V.brI (fun h => (cne (r2 j).symm h).elim) fun _ => ?_
    ((repeat' first | with_reducible refine nN_h rfl ?_ | with_reducible refine V.brT ?_ | with_reducible refine V.brF ?_ | with_reducible refine V.needI ?_ ?_) <;> (try first | with_reducible exact V.okI | exact rfl | exact ⟨Nat.le_refl _, rfl⟩ | exact Nat.le_refl _ | assumption | omega | trivial | decide | (intros; rfl) | (intros; trivial)))
    all_goals try exact (show j + 1 ≤ n by omega)
  · ((repeat' first | with_reducible refine nN_h rfl ?_ | with_reducible refine V.brT ?_ | with_reducible refine V.brF ?_ | with_reducible refine V.needI ?_ ?_) <;> (try first | with_reducible exact V.okI | exact rfl | exact ⟨Nat.le_refl _, rfl⟩ | exact Nat.le_refl _ | assumption | omega | trivial | decide | (intros; rfl) | (intros; trivial)))
    exact fin (k := V.ok)
theorem wf8 {n : Int} (h : (Lit.int .u8 n).wf = true) : 0 ≤ n ∧ n ≤ 255 := by
  simp [Lit.wf, IntKind.min, IntKind.max, IntKind.bits, IntKind.signed] at h; omega
theorem walkBu (a : Option Addr) (len cap : Nat) (g : Nat → Int) (b : Int) (W : World) (h : IsInts .u8 W a len cap g) (ht : (Lit.int .u8 b).wf = true) :
    Calls P 4 #[.slice a len cap, .int .u8 b] W fun e w' => e = .returned (.bool true) ∧ Below W.heap.size W w' := by
  refine calls_yesV (vs := [.slice a len cap, .int .u8 b]) con23_ok (ρ := fun k i => if k = 0 ∧ i = 0 then addr0 a else none) (vhBu (g := g) (wf8 ht)) (views_inv fun k b hk => ?_) ⟨h.val (by simp) ⟨Nat.le_of_ble_eq_true rfl, trivial⟩, fun _ _ => rfl, trivial⟩
  rw [find_cons] at hk
  split at hk
  · rename_i e; subst e
    cases hk
    exact ⟨rfl, by decide, h.sat (by simp)⟩
  · cases hk
end Go.Proofs.YtomaagmleafjeaaGreat.Md
