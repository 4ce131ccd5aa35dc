/- Probe alone: the conditions, printed by program. -/
import Derived.Test.YtimklokgjmdobaaMMdPfD
import Derived.Test.YtimklokgjmdobaaMW
import Derived.Test.YtimklokgjmdobaaMV
import Derived.Test.YtimklokgjmdobaaMMd
import Derived.Test.YtimklokgjmdobaaMMd
set_option linter.unusedVariables false
set_option linter.unusedSimpArgs false
set_option maxRecDepth 100000
namespace Go.Proofs.Ytimklokgjmdobaa.Md
open Go Go.RowKit Sx Cn Dc Ck Vc

abbrev qPf0 (l : List (Nat × P0)) : List (Nat × P0) := (1, .le 1 1) :: (1, .pf (∀ (i : Nat), i < 1 → 1 ≤ 1) (by intros; exact Nat.le_refl _)) :: l
theorem vPf_eq (y : Ly) (n cap : Nat) (w d : Int) (m : Mm) (I : XPf → Prop) (φ : Rp → Prop) : V.pr .z (vPf y n cap w d m I φ) =
  V.need (I (XPf.mk (Int.ofNat 0) m (Pr.mk false (Int.ofNat 0) (Int.ofNat 0) w false (Int.ofNat 0) (Int.ofNat 0)) (A16.mk (Int.ofNat 0) (Int.ofNat 0) (Int.ofNat 0) (Int.ofNat 0) (Int.ofNat 0) (Int.ofNat 0) (Int.ofNat 0) (Int.ofNat 0) (Int.ofNat 0) (Int.ofNat 0) (Int.ofNat 0) (Int.ofNat 0) (Int.ofNat 0) (Int.ofNat 0) (Int.ofNat 0) (Int.ofNat 0)))) (nN [(1, .eqI 0 0), qE false, (2, .eqI 0 0), qE w, qE false, (18, .eqI 0 0), qE n, qE cap, qE m.lk, qE m.lc, qE m.lo, qE m.ln, qE m.ct, qE cap, qL n, qF n m.g] (V.any XPf I fun (x : XPf) => V.br (decide (x.k < Int.ofNat 40))
 (nN (qPf0 (qE y.W :: qE y.W :: qE y.L :: qE y.C :: qE y.T :: qE y.D :: qE y.H :: qE y.sl :: qE y.ep :: qE y.bm :: qE y.qu :: qE y.tb :: qE n :: qE cap :: qE x.mm.lk :: qE x.mm.lc :: qE x.mm.lo :: qE x.mm.ln :: qE x.mm.ct :: qE cap :: qL n :: qF n x.mm.g :: qE x.pr.e :: qE x.pr.co :: qE x.pr.va :: qE x.pr.w :: qE x.pr.b :: qE x.pr.st :: qE x.pr.nx :: qE x.A.a0 :: qE x.A.a1 :: qE x.A.a2 :: qE x.A.a3 :: qE x.A.a4 :: qE x.A.a5 :: qE x.A.a6 :: qE x.A.a7 :: qE x.A.a8 :: qE x.A.a9 :: qE x.A.a10 :: qE x.A.a11 :: qE x.A.a12 :: qE x.A.a13 :: qE x.A.a14 :: qE x.A.a15 :: qPf0 [qE d])) (V.need (prePs y x.pr x.A x.mm) (V.need (∃ (x_1 : Ps), psO y n d x.pr x.A x.mm x_1) (V.any Ps (psO y n d x.pr x.A x.mm) fun (x_1 : Ps) => V.br x_1.b
 (nN [(6, .lt2 0 1 0 1)] (V.need (φ (Rp.mk x_1.p.co x_1.p.va (IntKind.i64.wrap (x.k + Int.ofNat 1)) x_1.m)) (nN [qE x_1.p.co, qE x_1.p.va, qE (IntKind.i64.wrap (x.k + Int.ofNat 1)), qE n, qE cap, qE x_1.m.lk, qE x_1.m.lc, qE x_1.m.lo, qE x_1.m.ln, qE x_1.m.ct, qE cap, qL n, qF n x_1.m.g] V.ok)))
 (V.need (I (XPf.mk (IntKind.i64.wrap (x.k + Int.ofNat 1)) x_1.m x_1.p x_1.B)) (V.need ((Int.ofNat 40 - IntKind.i64.wrap (x.k + Int.ofNat 1)).toNat < (Int.ofNat 40 - x.k).toNat) (nN [qE (IntKind.i64.wrap (x.k + Int.ofNat 1)), qE x_1.p.e, qE x_1.p.co, qE x_1.p.va, qE x_1.p.w, qE x_1.p.b, qE x_1.p.st, qE x_1.p.nx, qE x_1.B.a0, qE x_1.B.a1, qE x_1.B.a2, qE x_1.B.a3, qE x_1.B.a4, qE x_1.B.a5, qE x_1.B.a6, qE x_1.B.a7, qE x_1.B.a8, qE x_1.B.a9, qE x_1.B.a10, qE x_1.B.a11, qE x_1.B.a12, qE x_1.B.a13, qE x_1.B.a14, qE x_1.B.a15, qE n, qE cap, qE x_1.m.lk, qE x_1.m.lc, qE x_1.m.lo, qE x_1.m.ln, qE x_1.m.ct, qE cap, qL n, qF n x_1.m.g] V.ok)))))))
 (V.need (φ (Rp.mk (Int.negSucc 0) (Int.ofNat 0) x.k x.mm)) (nN [qE (Int.negSucc 0), (1, .eqI 0 0), qE x.k, qE n, qE cap, qE x.mm.lk, qE x.mm.lc, qE x.mm.lo, qE x.mm.ln, qE x.mm.ct, qE cap, qL n, qF n x.mm.g] V.ok)))) := by kernel_rfl


end Go.Proofs.Ytimklokgjmdobaa.Md

/- Probe alone: the conditions hold; the contract of Alone. -/
set_option maxRecDepth 100000
namespace Go.Proofs.Ytimklokgjmdobaa.Md
open Go Go.RowKit Sx Cn Dc Ck Vc
def bmW (y : Ly) (m : Mm) (j : Nat) : Int := m.g (y.bm.toNat + j)
def ansP (r : Int × Int) : Int × Int := if r.1 < 0 then (2, 0) else (1, IntKind.i64.wrap (IntKind.i64.wrap (r.1 * 64) + r.2))
def preA (y : Ly) (n : Nat) (w : Int) (m : Mm) : Prop := (1 ≤ y.W ∧ y.W ≤ 16) ∧ (0 ≤ w ∧ w < y.W) ∧ (0 ≤ y.bm ∧ y.bm ≤ 1000 ∧ y.bm + y.W ≤ n) ∧ (∀ e, 0 ≤ m.g e ∧ m.g e ≤ 18446744073709551615) ∧ 0 ≤ m.ct ∧ m.ct ≤ 1000
def φPf (y : Ly) (w d : Int) (m : Mm) (r : Rp) : Prop := r.k = max 1 (y.W - 1) ∧ r.m.ct = m.ct + (y.W - 1) ∧ (r.c, r.v) = ansP (chRun (bmW y m) y.W w (dr d y.W) y.W.toNat)
structure IPf (y : Ly) (w d : Int) (m : Mm) (o : Nat) (x : XPf) : Prop where
  e : x.pr.e = false
  w : x.pr.w = w
  g : ∀ e, x.mm.g e = m.g e
  ct : x.mm.ct = m.ct + x.k
  A : ∀ j, j < 16 → 0 ≤ x.A.get j ∧ x.A.get j ≤ 18446744073709551615
  c : (x.pr.b = false ∧ x.k = 0 ∧ x.pr.nx = 0) ∨ (x.pr.b = true ∧ x.pr.st = dr d y.W ∧ (0 ≤ x.pr.nx ∧ x.pr.nx < y.W) ∧ x.pr.nx ≠ o ∧ x.k = x.pr.nx - (if (o : Int) < x.pr.nx then 1 else 0) ∧ ∀ i : Nat, (i : Int) < x.pr.nx → i ≠ o → x.A.get (chV y.W (dr d y.W) i).toNat = bmW y m (chV y.W (dr d y.W) i).toNat)
section
variable {y : Ly} {n : Nat} {w d s nx W : Int} {m : Mm} {o : Nat} {x : XPf} {r : Ps}
theorem nxP_o (hW : 0 < W) (ho : (o : Int) < W) (hw : chV W s o = w) (h0 : 0 ≤ nx) : nxP s nx w W = if nx = o then nx + 1 else nx := by
  unfold nxP
  by_cases h : nx = o
  · rw [if_pos h, if_pos ⟨by omega, by rw [h]; exact hw⟩]
  · rw [if_neg h, if_neg fun q => ?_]
    apply h
    have e : chV W s nx.toNat = chV W s o := by
      rw [hw]
      unfold chV
      rw [show ((nx.toNat : Nat) : Int) = nx by omega]
      exact q.2
    have := chV_inj hW (i := nx.toNat) (j := o) (by omega) ho e
    omega
theorem mW_e (h : preA y n w m) : mW y = y.W := by
  have := h.1
  show min y.W 16 = y.W
  omega
theorem dr_d (h0 : 0 ≤ s) (h1 : s < W) : dr s W = s := by
  unfold dr
  rw [if_neg (by omega)]
  exact Int.emod_eq_of_lt h0 h1
theorem pf_0 (h : preA y n w m) : IPf y w d m o ⟨Int.ofNat 0, m, ⟨false, Int.ofNat 0, Int.ofNat 0, w, false, Int.ofNat 0, Int.ofNat 0⟩, ⟨Int.ofNat 0, Int.ofNat 0, Int.ofNat 0, Int.ofNat 0, Int.ofNat 0, Int.ofNat 0, Int.ofNat 0, Int.ofNat 0, Int.ofNat 0, Int.ofNat 0, Int.ofNat 0, Int.ofNat 0, Int.ofNat 0, Int.ofNat 0, Int.ofNat 0, Int.ofNat 0⟩⟩ := by
  refine ⟨rfl, rfl, fun _ => rfl, (Int.add_zero _).symm, fun j hj => ?_, .inl ⟨rfl, rfl, rfl⟩⟩
  have e : (A16.mk (Int.ofNat 0) (Int.ofNat 0) (Int.ofNat 0) (Int.ofNat 0) (Int.ofNat 0) (Int.ofNat 0) (Int.ofNat 0) (Int.ofNat 0) (Int.ofNat 0) (Int.ofNat 0) (Int.ofNat 0) (Int.ofNat 0) (Int.ofNat 0) (Int.ofNat 0) (Int.ofNat 0) (Int.ofNat 0)).get j = 0 := by
    rcases (show j = 0 ∨ j = 1 ∨ j = 2 ∨ j = 3 ∨ j = 4 ∨ j = 5 ∨ j = 6 ∨ j = 7 ∨ j = 8 ∨ j = 9 ∨ j = 10 ∨ j = 11 ∨ j = 12 ∨ j = 13 ∨ j = 14 ∨ j = 15 by omega) with rfl | rfl | rfl | rfl | rfl | rfl | rfl | rfl | rfl | rfl | rfl | rfl | rfl | rfl | rfl | rfl <;> rfl
  show 0 ≤ A16.get _ j ∧ _
  rw [e]
  exact ⟨Int.le_refl 0, by decide⟩
theorem pf_pre (h : preA y n w m) (hi : IPf y w d m o x) : prePs y x.pr x.A x.mm := by
  have hM := mW_e h
  have h1 := h.1
  have hd := dr_b (a := d) (n := y.W) (by omega)
  refine ⟨⟨h.1.1, h.2.2.1.1, h.2.2.1.2.1⟩, fun hb => ?_, ?_, fun e => by rw [hi.g]; exact h.2.2.2.1 e, hi.A⟩
  · rcases hi.c with c | c
    · rw [c.1] at hb; cases hb
    · rw [c.2.1, hM]; exact hd
  · rcases hi.c with c | c
    · rw [c.2.2]; omega
    · have := c.2.2.1; omega
theorem pf_k (h : preA y n w m) (hi : IPf y w d m o x) : 0 ≤ x.k ∧ x.k ≤ 16 := by
  rcases hi.c with c | c
  · omega
  · have h1 := c.2.2.1; have h2 := c.2.2.2.2.1; have h3 := c.2.2.2.1; have h4 := h.1
    rw [h2]
    split <;> omega
theorem pf_w (h : preA y n w m) (hi : IPf y w d m o x) : IntKind.i64.wrap (x.k + Int.ofNat 1) = x.k + 1 := by
  have := pf_k h hi
  exact w64 (by show _ ≤ x.k + 1 ∧ x.k + 1 ≤ _; omega)
theorem pf_step (h : preA y n w m) (ho : (o : Int) < y.W) (hw : chV y.W (dr d y.W) o = w) (hi : IPf y w d m o x) (hr : psO y n d x.pr x.A x.mm r) :
    (r.b = true → φPf y w d m ⟨r.p.co, r.p.va, x.k + 1, r.m⟩) ∧ (r.b = false → IPf y w d m o ⟨x.k + 1, r.m, r.p, r.B⟩) := by
  have hM := mW_e h
  have hp := pf_pre h hi
  have hk := pf_k h hi
  obtain ⟨hW, hw01, hbm, hok, hct⟩ := h
  have hd := dr_b (a := d) (n := y.W) (by omega)
  obtain ⟨s, n1, hs, hn1, hr⟩ := hr.2 hi.e
  have hsM := hs
  have hnM := hn1
  have hse : s = dr d y.W := by
    rw [hs]
    unfold stP
    rcases hi.c with c | c
    · rw [c.1, hM]; rfl
    · rw [c.1]; exact c.2.1
  rw [hM, hi.w] at hn1
  have U : (0 ≤ n1 ∧ n1 ≠ o) ∧ x.k = n1 - (if (o : Int) < n1 then 1 else 0) ∧ (∀ i : Nat, (i : Int) < n1 → i ≠ o → x.A.get (chV y.W (dr d y.W) i).toNat = bmW y m (chV y.W (dr d y.W) i).toNat) ∧ (y.W ≤ n1 → y.W = 1 ∧ x.k = 0 ∧ o = 0) := by
    rcases hi.c with c | c
    · rw [c.2.2, nxP_o (by omega) ho (by rw [hse]; exact hw) (Int.le_refl 0)] at hn1
      by_cases h0 : (0 : Int) = o
      · rw [if_pos h0] at hn1
        refine ⟨by omega, by rw [if_pos (by omega)]; omega, fun i hi2 hio => by omega, fun hl => by omega⟩
      · rw [if_neg h0] at hn1
        refine ⟨by omega, by rw [if_neg (by omega)]; omega, fun i hi2 hio => by omega, fun hl => by omega⟩
    · obtain ⟨_, _, c1, c2, c3, c4⟩ := c
      rw [nxP_o (by omega) ho (by rw [hse]; exact hw) c1.1, if_neg c2] at hn1
      rw [hn1]
      exact ⟨⟨c1.1, c2⟩, c3, c4, fun hl => by omega⟩
  obtain ⟨⟨U0, U1⟩, U2, U3, U4⟩ := U
  rcases hr with ⟨hl, rfl⟩ | ⟨hl, a, m', v, n2, ha, hm', hv, hn2, hr⟩
  · obtain ⟨e1, e2, e3⟩ := U4 (by omega)
    refine ⟨fun _ => ⟨by show x.k + 1 = max 1 (y.W - 1); omega, by show x.mm.ct = _; rw [hi.ct]; omega, ?_⟩, fun hb => by cases hb⟩
    have e4 : y.W.toNat = 1 := by omega
    rw [e4]
    show _ = ansP (chOne w (chV y.W (dr d y.W) 0) _ _)
    rw [← e3, hw, chOne_self]
    rfl
  · have hv0 := vP_e hp hsM hnM
    rw [hM] at hv0 hl
    have hvn : vP y s n1 = chV y.W (dr d y.W) n1.toNat := by
      rw [hv0, hse]
      unfold chV
      rw [show ((n1.toNat : Nat) : Int) = n1 by omega]
    have hvb := chV_bd (n := y.W) (s := dr d y.W) (by omega) n1.toNat
    rw [← hvn] at hvb
    have hae : a = y.bm + vP y s n1 := by
      rw [ha]
      unfold atM
      rw [if_neg (by omega)]
      show y.bm + vP y s n1 * 1 = _
      omega
    have hve : v = bmW y m (vP y s n1).toNat := by
      rw [hv, Mm.val_eq (by omega) (by omega), hi.g]
      unfold bmW
      congr 1
      omega
    have hme : ∀ e, m'.g e = m.g e := fun e => by rw [hm', Mm.acc_ld, hi.g]
    have hmc : m'.ct = m.ct + (x.k + 1) := by
      rw [hm']
      unfold Mm.acc
      rw [inb_t (by omega) (by omega)]
      show IntKind.i64.wrap (x.mm.ct + 1) = _
      rw [hi.ct, w64 (by omega)]
      omega
    have hn2e : n2 = if n1 + 1 = o then n1 + 2 else n1 + 1 := by
      rw [hn2, hM, hi.w, show IntKind.i64.wrap (n1 + Int.ofNat 1) = n1 + 1 from w64 (by show _ ≤ n1 + 1 ∧ n1 + 1 ≤ _; omega), nxP_o (by omega) ho (by rw [hse]; exact hw) (by omega)]
      split <;> omega
    have hA : ∀ i : Nat, (i : Int) < n2 → i ≠ o → (putA x.A (vP y s n1).toNat v).get (chV y.W (dr d y.W) i).toNat = bmW y m (chV y.W (dr d y.W) i).toNat := fun i hi2 hio => by
      have hib := chV_bd (n := y.W) (s := dr d y.W) (by omega) i
      rw [putA_get (by omega)]
      by_cases hin : i = n1.toNat
      · rw [hin, ← hvn, if_pos rfl, hve]
      · have hi3 : (i : Int) < n1 := by
          split at hn2e <;> omega
        rw [if_neg fun q => ?_]
        · exact U3 i hi3 hio
        · have := chV_inj (n := y.W) (s := dr d y.W) (by omega) (i := i) (j := n1.toNat) (by omega) (by omega) (by rw [← hvn]; omega)
          exact hin this
    have hA16 : ∀ j, j < 16 → 0 ≤ (putA x.A (vP y s n1).toNat v).get j ∧ (putA x.A (vP y s n1).toNat v).get j ≤ 18446744073709551615 := fun j hj => by
      rw [putA_get hj]
      split
      · rw [hve]; exact hok _
      · exact hi.A j hj
    have hko : x.k + 1 = n2 - (if (o : Int) < n2 then 1 else 0) ∧ n2 ≠ o := by
      by_cases h1 : n1 + 1 = o
      · rw [if_pos h1] at hn2e
        rw [if_neg (by omega)] at U2
        rw [if_pos (by omega)]
        omega
      · rw [if_neg h1] at hn2e
        by_cases h2 : (o : Int) < n1
        · rw [if_pos h2] at U2
          rw [if_pos (by omega)]
          omega
        · rw [if_neg h2] at U2
          rw [if_neg (by omega)]
          omega
    have hend : mW y ≤ n2 → n2 = y.W ∧ (o : Int) < n2 := fun q => by
      rw [hM] at q
      split at hn2e <;> omega
    have hfin : mW y ≤ n2 → x.k + 1 = max 1 (y.W - 1) ∧ m'.ct = m.ct + (y.W - 1) ∧ rcP y (putA x.A (vP y s n1).toNat v) x.pr.w s = chRun (bmW y m) y.W w (dr d y.W) y.W.toNat := fun q => by
      obtain ⟨q1, q2⟩ := hend q
      have hk1 := hko.1
      rw [if_pos q2] at hk1
      refine ⟨by omega, by rw [hmc]; omega, ?_⟩
      show chRun _ ((mW y).toNat : Int) _ (dr s ((mW y).toNat : Int)) (mW y).toNat = _
      rw [hM, show ((y.W.toNat : Nat) : Int) = y.W by omega, show dr s y.W = dr d y.W by rw [hse, dr_d hd.1 hd.2], hi.w]
      refine chRun_congr (by omega) (fun j hj hjw => ?_) _
      obtain ⟨i, hiW, hij⟩ := chV_ex (n := y.W) (s := dr d y.W) (by omega) (v := (j : Int)) (by omega) hj
      have hio : i ≠ o := fun q => hjw (by rw [← hij, q]; exact hw)
      have := hA i (by omega) hio
      rw [hij] at this
      simpa using this
    rcases hr with ⟨hl2, rfl⟩ | ⟨hl2, ⟨hn, rfl⟩ | ⟨hn, rfl⟩⟩
    · refine ⟨fun hb => (by cases hb), fun _ => ⟨hi.e, hi.w, hme, hmc, hA16, .inr ⟨rfl, hse, ⟨?_, ?_⟩, hko.2, hko.1, hA⟩⟩⟩
      · show 0 ≤ n2
        split at hn2e <;> omega
      · show n2 < y.W
        omega
    · obtain ⟨f1, f2, f3⟩ := hfin hl2
      refine ⟨fun _ => ⟨f1, f2, ?_⟩, fun hb => by cases hb⟩
      rw [← f3]
      unfold ansP
      rw [if_pos hn]
    · obtain ⟨f1, f2, f3⟩ := hfin hl2
      refine ⟨fun _ => ⟨f1, f2, ?_⟩, fun hb => by cases hb⟩
      rw [← f3]
      unfold ansP
      rw [if_neg hn]
      rfl
theorem psO_ex (h : prePs y x.pr x.A x.mm) : ∃ r, psO y n d x.pr x.A x.mm r := by
  by_cases he : x.pr.e = true
  · exact ⟨_, psO_e he⟩
  · have he : x.pr.e = false := by simpa using he
    by_cases h1 : nxP (stP x.pr d (mW y)) x.pr.nx x.pr.w (mW y) ≥ mW y
    · exact ⟨_, psO_0 he rfl rfl rfl (decide_eq_true h1)⟩
    · by_cases h2 : nxP (stP x.pr d (mW y)) (IntKind.i64.wrap (nxP (stP x.pr d (mW y)) x.pr.nx x.pr.w (mW y) + Int.ofNat 1)) x.pr.w (mW y) ≥ mW y
      · by_cases h3 : (rcP y (putA x.A (vP y (stP x.pr d (mW y)) (nxP (stP x.pr d (mW y)) x.pr.nx x.pr.w (mW y))).toNat (x.mm.val n (atM (vP y (stP x.pr d (mW y)) (nxP (stP x.pr d (mW y)) x.pr.nx x.pr.w (mW y))) y.W y.bm (Int.ofNat 1)))) x.pr.w (stP x.pr d (mW y))).1 < Int.ofNat 0
        · exact ⟨_, psO_2 he rfl rfl rfl (decide_eq_false h1) rfl rfl rfl rfl (by rw [decide_eq_true h2]; rfl) (decide_eq_true h3)⟩
        · exact ⟨_, psO_3 he rfl rfl rfl (decide_eq_false h1) rfl rfl rfl rfl (by rw [decide_eq_true h2]; rfl) (decide_eq_false h3)⟩
      · exact ⟨_, psO_1 he rfl rfl rfl (decide_eq_false h1) rfl rfl rfl rfl (by rw [decide_eq_false h2]; rfl)⟩
theorem pf_y (h : preA y n w m) (ho : (o : Int) < y.W) (hw : chV y.W (dr d y.W) o = w) (hi : IPf y w d m o x) (hr : psO y n d x.pr x.A x.mm r) (hb : r.b = true) : φPf y w d m ⟨r.p.co, r.p.va, IntKind.i64.wrap (x.k + Int.ofNat 1), r.m⟩ := by
  rw [pf_w h hi]; exact (pf_step h ho hw hi hr).1 hb
theorem pf_n (h : preA y n w m) (ho : (o : Int) < y.W) (hw : chV y.W (dr d y.W) o = w) (hi : IPf y w d m o x) (hr : psO y n d x.pr x.A x.mm r) (hb : r.b = false) : IPf y w d m o ⟨IntKind.i64.wrap (x.k + Int.ofNat 1), r.m, r.p, r.B⟩ := by
  rw [pf_w h hi]; exact (pf_step h ho hw hi hr).2 hb
theorem pf_mu (h : preA y n w m) (hi : IPf y w d m o x) : (Int.ofNat 40 - IntKind.i64.wrap (x.k + Int.ofNat 1)).toNat < (Int.ofNat 40 - x.k).toNat := by
  have := pf_k h hi
  rw [pf_w h hi]
  show ((40 : Int) - _).toNat < ((40 : Int) - _).toNat
  omega
theorem pf_l (h : preA y n w m) (hi : IPf y w d m o x) (hl : decide (x.k < Int.ofNat 40) = false) : False := by
  have := pf_k h hi
  have hl : ¬ x.k < 40 := of_decide_eq_false hl
  omega
end
def oP (y : Ly) (w d : Int) : Nat := ((w - dr d y.W) % y.W).toNat
theorem oP_h {y : Ly} {w d : Int} (hn : 0 < y.W) (h0 : 0 ≤ w) (h1 : w < y.W) : (oP y w d : Int) < y.W ∧ chV y.W (dr d y.W) (oP y w d) = w := by
  have h2 := Int.emod_nonneg (w - dr d y.W) (show y.W ≠ 0 by omega)
  have h3 := Int.emod_lt_of_pos (w - dr d y.W) hn
  have e : ((oP y w d : Nat) : Int) = (w - dr d y.W) % y.W := by unfold oP; omega
  refine ⟨by omega, ?_⟩
  unfold chV
  rw [e, Int.add_emod, Int.emod_emod_of_dvd _ (Int.dvd_refl y.W), ← Int.add_emod, show dr d y.W + (w - dr d y.W) = w by omega]
  exact Int.emod_eq_of_lt h0 h1
theorem vhPf {y : Ly} {n cap : Nat} {w d : Int} {m : Mm} (h : preA y n w m) : VHolds (vPf y n cap w d m (IPf y w d m (oP y w d)) (φPf y w d m)) := by
  obtain ⟨ho, hw⟩ := oP_h (d := d) (by have := h.1; omega) h.2.1.1 h.2.1.2
  refine VHolds.pr (vPf_eq ..) ?_
  (with_reducible repeat' first | exact V.okI | refine V.brT ?_ | refine V.brF ?_ | refine V.brI ?_ ?_ | refine V.anyI ?_ | refine nN_h rfl ?_ | refine V.needI ?_ ?_ | intro _)
  all_goals first
    | rfl
    | exact pf_0 h
    | exact pf_pre h (by assumption)
    | exact psO_ex (by assumption)
    | exact psO_ex (pf_pre h (by assumption))
    | exact pf_y h ho hw (by assumption) (by assumption) (by assumption)
    | exact pf_n h ho hw (by assumption) (by assumption) (by assumption)
    | exact pf_mu h (by assumption)
    | exact (pf_l h (by assumption) (by assumption)).elim
    | trace_state
noncomputable section
theorem cnPf_ok : ConOK P cnPf := .add cPs_ok ConOK.nil
def outPf (y : Ly) (n cap : NV) (w d : Int) (m : Mm) : Out (SV × Hp) := .need (preA y n.v w m) (.any Rp (φPf y w d m) fun r => .leaf (svPf r.c r.v r.k, ⟨memP n cap r.m, 5, fun _ => True⟩))
def tPb : TypeId := 75
def cAlF : List SV → Hp → Out (SV × Hp) := fun args H => match args with
  | [.c (.ptr ke _ _ _ _), .c (.ifc t kx _ _ _ _), .c (.ki .i64 40)] => fN kx fun kx => fN ke fun ke => fN (scK (bCell ke 22 H.h)) fun km => fN (scK (bCell ke 23 H.h)) fun kk => match Nat.beq t tPb with
    | true => match cellI kx 3 H.h, rdLyP ke H.h, rdMm H.h km, cellI kk 1 H.h with
      | some w, some y, some x, some d => fN x.kc fun kc => useP [ke, km, kc, kx, kk] 5 (argsAl tPb 23 40) (hPs y (.s x.len.v) (.s x.cap.v) d (p0 w) A0 x.m) (outPf y (.s x.len.v) (.s x.cap.v) w d x.m) args H
      | _, _, _, _ => .bad 438
    | false => .bad 491
  | _ => .bad 439
theorem cAlF_ok : ContractOK P fAlP cAlF := contract_of_useP fun args H => by
  unfold cAlF
  simp only [fN_eq]
  repeat' split
  all_goals first | exact .inl ⟨_, rfl⟩ | exact .inr ⟨_, _, _, _, _, rfl, local_of_ver cnPf_ok fun h => vhPf h⟩
end
end Go.Proofs.Ytimklokgjmdobaa.Md
