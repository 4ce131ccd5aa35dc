/- DrainTakes, the plain law: one task more. -/
import Derived.Test.YtomaagmleafjeaaGreatMMdDtL
set_option linter.unusedVariables false
set_option linter.unusedSimpArgs false
set_option linter.unusedVariables false
set_option linter.unusedSimpArgs false
set_option maxRecDepth 100000
namespace Go.Proofs.YtomaagmleafjeaaGreat.Md
open Go Go.RowKit Sx Cn Dc Ck Vc
theorem cnt_cg {g g' : Nat → Int} {x : Int} : ∀ {n : Nat}, (∀ j, j < n → g j = g' j) → cnt g x n = cnt g' x n
  | 0, _ => rfl
  | n + 1, h => by
    show cnt g x n + one (g n = x) = cnt g' x n + one (g' n = x)
    rw [cnt_cg fun j hj => h j (by omega), h n (by omega)]
theorem Hk.cg {len n : Nat} {K : Nat → Int} {al : Nat → Bool} {a a' : Nat → Int} (h : Hk len n K al a) (he : ∀ i, i < n → a' i = a i) : Hk len n K al a' :=
  ⟨fun j h0 hj => by rw [he _ hj, he _ (by omega)]; exact h.heap j h0 hj, fun v hv => by rw [cnt_cg he]; exact h.uni v hv, fun j hj => by
    obtain ⟨v, hv, e⟩ := h.own j hj
    exact ⟨v, hv, by rw [he j hj]; exact e⟩⟩
section
variable {D tb : Int} {n N : Nat} {g : Nat → Int} {B : Int}
/-- The state ahead of a Remove, or of the Release. -/
def dSt (x p ls : Int) (j : Nat) (ln : Int) (k : Nat) (m : Mm) (l : El) : XDr := ⟨x, p, ls, j, false, noRm ln k m l, 0, 0, 0, 0, 0, 0⟩
theorem dr_none {x p ls : Int} {j k F : Nat} {m : Mm} {l : El} (hn : 12 ≤ n) (h2 : m.g 2 = 0) (hF : 5 ≤ F) :
    ∃ F' k' m', F ≤ F' + 4 ∧ (∀ e, m'.g e = m.g e) ∧ drRun (yF D tb) n 0 B F (2, dSt x p ls j 1 k m l) = drRun (yF D tb) n 0 B F' (7, dSt x p ls j 0 k' m' l) := by
  have hH : (yF D tb).H = 8 := rfl
  obtain ⟨c, el, eg⟩ := rem_none (y := yF D tb) (n := n) (w := 0) (m := m) (l := l) (M := 1) (by omega) (by omega) (by omega) h2
  have es : rmRun (yF D tb) n 0 1 (noRm 1 k m l) = (rmR (yF D tb) n 0 1 m l).sh k := by
    have := rmRun_sh (y := yF D tb) (n := n) (w := 0) k 1 (noRm 1 0 m l)
    rw [← show (noRm 1 0 m l).sh k = noRm 1 k m l by unfold XRm.sh noRm; simp]
    exact this
  have hc : (rmRun (yF D tb) n 0 1 (dSt x p ls j 1 k m l).r).c ≠ -1 := by
    show (rmRun (yF D tb) n 0 1 (noRm 1 k m l)).c ≠ -1
    rw [es]
    show (rmR (yF D tb) n 0 1 m l).c ≠ -1
    rw [c]
    decide
  obtain ⟨F', h1, h3⟩ := dr_rm (B := B) (F := F) hc (by omega)
  refine ⟨F', ((rmR (yF D tb) n 0 1 m l).sh k).k.toNat, (rmR (yF D tb) n 0 1 m l).m, by omega, eg, ?_⟩
  rw [h3]
  show drRun (yF D tb) n 0 B F' (aftRm (rmRun (yF D tb) n 0 1 (noRm 1 k m l)) (dSt x p ls j 1 k m l)) = _
  rw [es]
  unfold aftRm
  rw [if_pos (show ((rmR (yF D tb) n 0 1 m l).sh k).c = 2 from c)]
  show drRun _ _ _ _ _ (7, ⟨x, p, ls, j, false, noRm 0 _ (rmR (yF D tb) n 0 1 m l).m (rmR (yF D tb) n 0 1 m l).l, 0, 0, 0, 0, 0, 0⟩) = _
  rw [el]
  rfl
set_option maxHeartbeats 2000000 in
theorem dr_round {x p ls : Int} {j k F : Nat} {m : Mm} {l : El} {tk : Nat → Nat} {S : Nat → Nat → Int} (hD : 1 ≤ D ∧ D ≤ 64) (hn : (n : Int) = 61 + 3 * D) (ht : tb = 15 + 3 * (2 + D)) (hN : N ≤ 8) (hg : ∀ u, u < N → 0 ≤ g u)
    (h : DI D tb n N g j m l tk S) (hj : j < N) (hB : (j : Int) < D) (hF : 40 ≤ F) :
    ∃ x' p' F' k' m' l' tk' S', F ≤ F' + 36 ∧ DI D tb n N g (j + 1) m' l' tk' S' ∧
      drRun (yF D tb) n 0 B F (2, dSt x p ls j 1 k m l) = drRun (yF D tb) n 0 B F' (if ((j + 1 : Nat) : Int) < B then (2, dSt x' p' p' (j + 1) 1 k' m' l') else (7, dSt x' p' p' (j + 1) 0 k' m' l')) := by
  have hH : (yF D tb).H = 8 := rfl
  have hQ := qpF (tb := tb) hD hn
  have hT : ∀ v : Nat, v < 3 → Tq (yF D tb) v = 15 + v * (2 + D) ∧ Tq (yF D tb) v + (2 + D) ≤ tb := fun v hv => by
    refine ⟨rfl, ?_⟩
    show (15 : Int) + v * (2 + D) + (2 + D) ≤ tb
    rcases v with _ | _ | _ | v
    · omega
    · omega
    · omega
    · omega
  obtain ⟨N', hN'⟩ : ∃ N', N - j = N' + 1 := ⟨N - j - 1, by omega⟩
  have hsz := h.sz
  have hhk := h.hk
  rw [hN'] at hsz hhk
  -- the Remove
  obtain ⟨c1, v1, l1, e1⟩ := rem_some (y := yF D tb) (n := n) (w := 0) (m := m) (l := l) (M := 25) (N := N') (by omega) (by omega) (by omega) hsz (by omega)
  obtain ⟨u, u1, u2, u3, u4, u5⟩ := hhk.pop fun a b ha hb => kF_inj (by omega) (by omega)
  have u2 : m.g 4 = kF g u := u2
  rw [u2, kF_tk (by omega)] at v1 l1
  have u3 : u < N ∧ usd tk j u = false := by simpa using u3
  have es : rmRun (yF D tb) n 0 25 (noRm 1 k m l) = (rmR (yF D tb) n 0 25 m l).sh k := by
    have := rmRun_sh (y := yF D tb) (n := n) (w := 0) k 25 (noRm 1 0 m l)
    rw [← show (noRm 1 0 m l).sh k = noRm 1 k m l by unfold XRm.sh noRm; simp]
    exact this
  have hc : (rmRun (yF D tb) n 0 25 (dSt x p ls j 1 k m l).r).c ≠ -1 := by
    show (rmRun (yF D tb) n 0 25 (noRm 1 k m l)).c ≠ -1
    rw [es]
    show (rmR (yF D tb) n 0 25 m l).c ≠ -1
    rw [c1]
    decide
  obtain ⟨F1, hF1, r1⟩ := dr_rm (B := B) (F := F) hc (by omega)
  have a1 : aftRm (rmRun (yF D tb) n 0 25 (dSt x p ls j 1 k m l).r) (dSt x p ls j 1 k m l) = (3, dSt u p ls j 0 ((rmR (yF D tb) n 0 25 m l).sh k).k.toNat (rmR (yF D tb) n 0 25 m l).m (l.put 13 0 u)) := by
    show aftRm (rmRun (yF D tb) n 0 25 (noRm 1 k m l)) _ = _
    rw [es]
    unfold aftRm
    rw [if_neg (show ¬ ((rmR (yF D tb) n 0 25 m l).sh k).c = 2 by show ¬ (rmR (yF D tb) n 0 25 m l).c = 2; rw [c1]; decide)]
    show (3, (⟨(rmR (yF D tb) n 0 25 m l).v, p, ls, j, false, noRm 0 _ (rmR (yF D tb) n 0 25 m l).m (rmR (yF D tb) n 0 25 m l).l, 0, 0, 0, 0, 0, 0⟩ : XDr)) = _
    rw [v1, l1]
    rfl
  rw [r1, a1]
  clear r1 a1 hc es c1 v1 l1
  generalize ((rmR (yF D tb) n 0 25 m l).sh k).k.toNat = k1
  generalize (rmR (yF D tb) n 0 25 m l).m = m1 at *
  have g12 : ∀ e : Nat, 12 ≤ e → m1.g e = m.g e := fun e he => by
    rw [e1, if_neg (by omega), if_pos (by omega)]
    split
    · show m.g (4 + (e - 4)) = _
      rw [show 4 + (e - 4) = e by omega]
    · rw [dn_ge (by omega) (by omega)]
      show m.g (4 + (e - 4)) = _
      rw [show 4 + (e - 4) = e by omega]
  have ok1 : ∀ e, 0 ≤ m1.g e ∧ m1.g e ≤ 18446744073709551615 := fun e => by
    have ho := h.ws.wf.ok
    rw [e1]
    split
    · omega
    · split
      · split
        · exact ho _
        · exact dn_p (p := fun z => 0 ≤ z ∧ z ≤ 18446744073709551615) (fun q => ho _) (ho _) _
      · exact ho _
  have ws1 := Ws_congr (b := 12) hQ h.ws (by show (12 : Int) ≤ 14; decide) (fun e he => g12 e (by omega)) ok1
  -- the level
  have hlf := lF_bd (hg u u3.1)
  have e2 : m1.val n (atM u 8 (IntKind.i64.wrap (tb + 1)) 5) = lF g u := by
    have ea : atM u 8 (IntKind.i64.wrap (tb + 1)) 5 = tb + u * 5 + 1 := by
      unfold atM
      rw [if_neg (by omega), w64 (by omega)]
      omega
    rw [ea, Mm.val_eq (by omega) (by omega), g12 _ (by omega)]
    exact h.lev u u3.1
  obtain ⟨F2, rfl⟩ : ∃ F2, F1 = F2 + 1 := ⟨F1 - 1, by omega⟩
  have s3 : drStep (yF D tb) n 0 B (3, dSt u p ls j 0 k1 m1 (l.put 13 0 u)) = some ((4, dSt u (lF g u) ls j 0 (k1 + 1) (m1.acc n 1 (atM u 8 (IntKind.i64.wrap (tb + 1)) 5) (m1.val n (atM u 8 (IntKind.i64.wrap (tb + 1)) 5))) (l.put 13 0 u)), none) := by
    show some ((4, (⟨u, IntKind.i64.wrap (m1.val n (atM u 8 (IntKind.i64.wrap (tb + 1)) 5)), ls, j, false, noRm 0 (k1 + 1) (m1.acc n 1 (atM u 8 (IntKind.i64.wrap (tb + 1)) 5) (m1.val n (atM u 8 (IntKind.i64.wrap (tb + 1)) 5))) (l.put 13 0 u), 0, 0, 0, 0, 0, 0⟩ : XDr)), none) = _
    rw [show IntKind.i64.wrap (m1.val n (atM u 8 (IntKind.i64.wrap (tb + 1)) 5)) = lF g u by rw [e2, w64 (by omega)]]
    rfl
  rw [drRun_s, s3]
  show ∃ x' p' F' k' m' l' tk' S', _ ∧ _ ∧ drRun (yF D tb) n 0 B F2 (4, dSt u (lF g u) ls j 0 (k1 + 1) (m1.acc n 1 (atM u 8 (IntKind.i64.wrap (tb + 1)) 5) (m1.val n (atM u 8 (IntKind.i64.wrap (tb + 1)) 5))) (l.put 13 0 u)) = _
  have g2 : ∀ e, (m1.acc n 1 (atM u 8 (IntKind.i64.wrap (tb + 1)) 5) (m1.val n (atM u 8 (IntKind.i64.wrap (tb + 1)) 5))).g e = m1.g e := fun e => Mm.acc_ld e
  generalize m1.acc n 1 (atM u 8 (IntKind.i64.wrap (tb + 1)) 5) (m1.val n (atM u 8 (IntKind.i64.wrap (tb + 1)) 5)) = m2 at *
  have ws2 := Ws_congr (b := 12) hQ ws1 (by show (12 : Int) ≤ 14; decide) (fun e he => g2 e) (fun e => by rw [g2]; exact ok1 e)
  -- the Push
  have hv : lvF g u < 3 := by unfold lvF; omega
  have hcv : ((lvF g u : Nat) : Int) = lF g u := by unfold lvF; omega
  have hcl := cntL_le (lv := lvF g) (tk := tk) (j := j) (v := lvF g u)
  have htp : ∀ v, v < 3 → m2.g (Tq (yF D tb) v).toNat = 0 := fun v hv => by
    rw [g2, g12 _ (by have := (hT v hv).1; have := Int.mul_nonneg (show (0 : Int) ≤ v by omega) (show 0 ≤ 2 + D by omega); omega)]
    exact h.tp v hv
  have hbd : ∀ v, v < 3 → m2.g (Tq (yF D tb) v + 1).toNat ≤ 8 := fun v hv => by
    have := ws2.len v hv
    have := htp v hv
    have := cntL_le (lv := lvF g) (tk := tk) (j := j) (v := v)
    omega
  have hne : (cntL (lvF g) tk j (lvF g u) : Int) ≠ (yF D tb).D := by show (cntL (lvF g) tk j (lvF g u) : Int) ≠ D; omega
  obtain ⟨q1, q2, ws3⟩ : _ ∧ _ ∧ _ := (push_ws2 (v := lvF g u) (M := 5) (val := (u : Int)) (bd := 8) hQ ws2 hv (by omega) (by omega) (by omega) (by decide) hbd).resolve_left fun c => hne c.1
  obtain ⟨-, e3⟩ := push_fine (v := lvF g u) (M := 5) (val := (u : Int)) hQ ws2.wf hv (by omega) ⟨by omega, by omega⟩ (by
    have := ws2.len (lvF g u) hv
    show _ < _ + D
    omega)
  have ep : puRun (yF D tb) n 0 (lF g u) u 5 (0, (dSt u (lF g u) ls j 0 (k1 + 1) m2 (l.put 13 0 u)).pu) = (puR (yF D tb) n 0 (lvF g u) u 5 m2).sh (k1 + 1) := by
    have := puRun_sh (y := yF D tb) (n := n) (w := 0) (lF g u) u (k1 + 1) 5 0 ⟨0, 0, 0, 0, 0, 0, 0, m2⟩
    rw [← show XPu.sh ⟨0, 0, 0, 0, 0, 0, 0, m2⟩ (k1 + 1) = (dSt u (lF g u) ls j 0 (k1 + 1) m2 (l.put 13 0 u)).pu by unfold XPu.sh; simp [XDr.pu, dSt, noRm], this, hcv]
    rfl
  have hc2 : (puRun (yF D tb) n 0 (dSt u (lF g u) ls j 0 (k1 + 1) m2 (l.put 13 0 u)).p (dSt u (lF g u) ls j 0 (k1 + 1) m2 (l.put 13 0 u)).x 5 (0, (dSt u (lF g u) ls j 0 (k1 + 1) m2 (l.put 13 0 u)).pu)).c ≠ -1 := by
    show (puRun (yF D tb) n 0 (lF g u) u 5 (0, (dSt u (lF g u) ls j 0 (k1 + 1) m2 (l.put 13 0 u)).pu)).c ≠ -1
    rw [ep]
    show (puR (yF D tb) n 0 (lvF g u) u 5 m2).c ≠ -1
    rw [q2]
    decide
  obtain ⟨F3, hF3, r3⟩ := dr_pu (B := B) (q := 0) (F := F2) (by decide) hc2 (by omega)
  have a3 : aftPu B (puRun (yF D tb) n 0 (dSt u (lF g u) ls j 0 (k1 + 1) m2 (l.put 13 0 u)).p (dSt u (lF g u) ls j 0 (k1 + 1) m2 (l.put 13 0 u)).x 5 (0, (dSt u (lF g u) ls j 0 (k1 + 1) m2 (l.put 13 0 u)).pu)) (dSt u (lF g u) ls j 0 (k1 + 1) m2 (l.put 13 0 u)) =
      (if ((j + 1 : Nat) : Int) < B then (2, dSt u (lF g u) (lF g u) (j + 1) 1 ((puR (yF D tb) n 0 (lvF g u) u 5 m2).sh (k1 + 1)).k.toNat (puR (yF D tb) n 0 (lvF g u) u 5 m2).m (l.put 13 0 u)) else (7, dSt u (lF g u) (lF g u) (j + 1) 0 ((puR (yF D tb) n 0 (lvF g u) u 5 m2).sh (k1 + 1)).k.toNat (puR (yF D tb) n 0 (lvF g u) u 5 m2).m (l.put 13 0 u))) := by
    show aftPu B (puRun (yF D tb) n 0 (lF g u) u 5 (0, (dSt u (lF g u) ls j 0 (k1 + 1) m2 (l.put 13 0 u)).pu)) _ = _
    rw [ep]
    have ew : IntKind.i64.wrap ((j : Int) + 1) = ((j + 1 : Nat) : Int) := wnat (by omega)
    unfold aftPu
    rw [if_neg (show ¬ ((puR (yF D tb) n 0 (lvF g u) u 5 m2).sh (k1 + 1)).c = 3 by show ¬ (puR (yF D tb) n 0 (lvF g u) u 5 m2).c = 3; rw [q2]; decide)]
    show (if IntKind.i64.wrap ((j : Int) + 1) < B then (2, (⟨u, lF g u, lF g u, IntKind.i64.wrap ((j : Int) + 1), false, _, 0, 0, 0, 0, 0, 0⟩ : XDr)) else (7, (⟨u, lF g u, lF g u, IntKind.i64.wrap ((j : Int) + 1), false, _, 0, 0, 0, 0, 0, 0⟩ : XDr))) = _
    rw [ew]
    rfl
  have r3 : drRun (yF D tb) n 0 B F2 (4, dSt u (lF g u) ls j 0 (k1 + 1) m2 (l.put 13 0 u)) = _ := r3
  rw [r3, a3]
  generalize ((puR (yF D tb) n 0 (lvF g u) u 5 m2).sh (k1 + 1)).k.toNat = k3
  generalize (puR (yF D tb) n 0 (lvF g u) u 5 m2).m = m3 at *
  clear r3 a3 ep hc2 s3
  let tk' : Nat → Nat := fun i => if i = j then u else tk i
  have tke : ∀ i, i < j → tk i = tk' i := fun i hi => (if_neg (by omega)).symm
  have tkj : tk' j = u := if_pos rfl
  let S' : Nat → Nat → Int := fun a b => if a = lvF g u ∧ b = cntL (lvF g) tk j (lvF g u) then (u : Int) else S a b
  have eb : (yF D tb).bm = 14 := rfl
  have hTu := hT (lvF g u) hv
  have hmul := Int.mul_nonneg (show (0 : Int) ≤ (lvF g u : Nat) by omega) (show 0 ≤ 2 + D by omega)
  have hmod := Int.emod_nonneg (m2.g (Tq (yF D tb) (lvF g u) + 1).toNat) (show (yF D tb).D ≠ 0 by show D ≠ 0; omega)
  have hmod2 : m2.g (Tq (yF D tb) (lvF g u) + 1).toNat % (yF D tb).D < D := Int.emod_lt_of_pos _ (show 0 < D by omega)
  have lo : ∀ e : Nat, e < 14 → m3.g e = m2.g e := fun e he => by
    rw [e3, if_neg (by omega), if_neg (by omega), if_neg (by omega)]
  have hi : ∀ e : Nat, tb ≤ e → m3.g e = m2.g e := fun e he => by
    rw [e3, if_neg (by omega), if_neg (by omega), if_neg (by omega)]
  refine ⟨u, lF g u, F3, k3, m3, l.put 13 0 u, tk', S', by omega, ⟨by omega, ?_, ?_, ?_, fun i hi' => ?_, fun a ha => ?_, ?_, fun v hv' => ?_, fun i hi' => ?_, ?_, fun i hi' => ?_⟩, rfl⟩
  · rw [lo 2 (by omega), g2, e1, if_pos rfl]
    omega
  · rw [lo 12 (by omega), g2, g12 _ (by omega)]
    exact h.sl
  · rw [show N - (j + 1) = N' by omega]
    refine (u4.al (fun v hv' => ?_) rfl).cg fun i hi' => ?_
    · show (decide (v < N) && !usd tk j v && !decide (v = u)) = (decide (v < N) && !(usd tk' j v || decide (v = tk' j)))
      rw [tkj, ← usd_congr tke]
      cases decide (v < N) <;> cases usd tk j v <;> cases decide (v = u) <;> rfl
    · rw [lo _ (by omega), g2, e1, if_neg (by omega), if_pos (by omega), show 4 + i - 4 = i by omega]
      rfl
  · by_cases c : i = j
    · subst c
      rw [tkj]
      refine ⟨u3.1, by rw [← usd_congr tke]; exact u3.2, fun w hw hu => ?_⟩
      rw [← usd_congr tke] at hu
      have hal : (decide (w < N) && !usd tk i w) = true := by rw [hu]; simp [hw]
      have h1 := hhk.uni w (by omega)
      rw [one_t hal] at h1
      obtain ⟨q, hq, hqe⟩ := cnt_ge (g := fun i => m.g (4 + i)) (by omega : 1 ≤ cnt (fun i => m.g (4 + i)) (kF g w) (N' + 1))
      have h2 := heap_min hhk.heap q hq
      rw [hqe] at h2
      rw [show 4 + 0 = 4 from rfl, u2] at h2
      exact h2
    · rw [← tke i (by omega), ← usd_congr (fun q hq => tke q (by omega))]
      obtain ⟨o1, o2, o3⟩ := h.ord i (by omega)
      exact ⟨o1, o2, fun w hw hu => o3 w hw (by rw [usd_congr (tk' := tk') fun q hq => tke q (by omega)]; exact hu)⟩
  · rw [hi _ (by omega), g2, g12 _ (by omega)]
    exact h.lev a ha
  · have ec : cntL (lvF g) tk' (j + 1) = fun v => if v = lvF g u then cntL (lvF g) tk j (lvF g u) + 1 else cntL (lvF g) tk j v := funext fun v => by
      show cntL (lvF g) tk' j v + (if v = lvF g (tk' j) then 1 else 0) = _
      rw [tkj, ← cntL_congr tke]
      split
      · rename_i c; subst c; rfl
      · rfl
    rw [ec]
    exact ws3
  · rw [e3, if_neg (by have := hT v hv'; have := Int.mul_nonneg (show (0 : Int) ≤ v by omega) (show 0 ≤ 2 + D by omega); omega)]
    have h1 := hQ.beg (v := v)
    have h2 := hQ.beg (v := lvF g u)
    rcases Nat.lt_trichotomy v (lvF g u) with c | c | c
    · have := hQ.lt c
      have : Tq (yF D tb) v + (2 + D) ≤ Tq (yF D tb) (lvF g u) := this
      rw [if_neg (by omega), if_neg (by omega)]
      exact htp v hv'
    · subst c
      rw [if_neg (by omega), if_neg (by omega)]
      exact htp _ hv'
    · have := hQ.lt c
      have : Tq (yF D tb) (lvF g u) + (2 + D) ≤ Tq (yF D tb) v := this
      rw [if_neg (by omega), if_neg (by omega)]
      exact htp v hv'
  · by_cases c : i = j
    · subst c
      rw [tkj, ← cntL_congr tke]
      exact if_pos ⟨rfl, rfl⟩
    · rw [← tke i (by omega), ← cntL_congr (fun q hq => tke q (by omega))]
      have : ¬ (lvF g (tk i) = lvF g u ∧ cntL (lvF g) tk i (lvF g (tk i)) = cntL (lvF g) tk j (lvF g u)) := fun ⟨ca, cb⟩ => by
        rw [ca] at cb
        have hlt : ∀ b, i < b → cntL (lvF g) tk i (lvF g u) < cntL (lvF g) tk b (lvF g u) := by
          intro b hb
          induction b with
          | zero => omega
          | succ b ih =>
            show _ < cntL (lvF g) tk b (lvF g u) + (if lvF g u = lvF g (tk b) then 1 else 0)
            by_cases e : i = b
            · subst e
              rw [if_pos ca.symm]
              omega
            · have := ih (by omega)
              omega
        have := hlt j (by omega)
        omega
      rw [show S' (lvF g (tk i)) (cntL (lvF g) tk i (lvF g (tk i))) = S (lvF g (tk i)) (cntL (lvF g) tk i (lvF g (tk i))) from if_neg this]
      exact h.pos i (by omega)
  · show l.n + 1 = j + 1
    rw [h.ev.1]
  · have := h.ev.1
    by_cases c : i = j
    · subst c
      rw [tkj]
      exact ⟨if_pos this.symm, if_pos this.symm⟩
    · rw [← tke i (by omega)]
      obtain ⟨o1, o2⟩ := h.ev.2 i (by omega)
      exact ⟨(if_neg (by omega)).trans o1, (if_neg (by omega)).trans o2⟩
end
end Go.Proofs.YtomaagmleafjeaaGreat.Md
