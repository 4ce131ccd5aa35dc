/- DrainTakes, the plain law: what Drain alone takes and leaves. -/
import Derived.Test.YtomaagmleafjeaaGreatMMdDrL
set_option linter.unusedVariables false
set_option linter.unusedSimpArgs false
set_option linter.unusedVariables false
set_option linter.unusedSimpArgs false
set_option maxRecDepth 100000
namespace Go.Proofs.YtomaagmleafjeaaGreat.Md
open Go Go.RowKit Sx Cn Dc Ck Vc
theorem up_p {p : Int → Prop} {k : Int} : ∀ {i : Nat} {g : Nat → Int}, (∀ j, p (g j)) → p k → ∀ j, p (upM i k g j)
  | 0, g, h, hk, j => by
    rw [upM]; unfold put
    split
    · exact hk
    · exact h j
  | i + 1, g, h, hk, j => by
    rw [upM]
    split
    · refine up_p (fun q => ?_) hk j
      unfold put
      split
      · exact h _
      · exact h q
    · unfold put
      split
      · exact hk
      · exact h j
termination_by i => i
decreasing_by omega
theorem up_ge {k : Int} : ∀ {i : Nat} {g : Nat → Int} {j : Nat}, i < j → upM i k g j = g j
  | 0, g, j, h => by rw [upM]; exact put_ne (by omega)
  | i + 1, g, j, h => by
    rw [upM]
    split
    · rw [up_ge (by omega)]; exact put_ne (by omega)
    · exact put_ne (by omega)
termination_by i => i
decreasing_by omega
theorem dn_p {p : Int → Prop} {y : Int} {n : Nat} : ∀ {f i : Nat} {g : Nat → Int}, (∀ j, p (g j)) → p y → ∀ j, p (dnM n y f i g j)
  | 0, i, g, h, hy, j => by
    rw [dnM]; unfold put
    split
    · exact hy
    · exact h j
  | f + 1, i, g, h, hy, j => by
    rw [dnM]
    split
    · refine dn_p (fun q => ?_) hy j
      unfold put
      split
      · exact h _
      · exact h q
    · unfold put
      split
      · exact hy
      · exact h j
theorem dn_ge {y : Int} {n : Nat} : ∀ {f i : Nat} {g : Nat → Int} {j : Nat}, i < n → n ≤ j → dnM n y f i g j = g j
  | 0, i, g, j, h, hj => by rw [dnM]; exact put_ne (by omega)
  | f + 1, i, g, j, h, hj => by
    rw [dnM]
    split
    · rename_i hc
      obtain ⟨b1, b2, b3⟩ := lsr_bd (g := g) hc.1
      rw [dn_ge b2 hj]; exact put_ne (by omega)
    · exact put_ne (by omega)
theorem and_nat {x : Nat} (hx : x < 18446744073709551616) : bits .and .u64 (x : Int) 65535 = ((x % 65536 : Nat) : Int) := by
  have h : x &&& 65535 = x % 65536 := Nat.and_two_pow_sub_one_eq_mod x 16
  unfold bits
  show IntKind.u64.wrap (((BitVec.ofInt 64 (x : Int)) &&& (BitVec.ofInt 64 (65535 : Int))).toNat : Int) = _
  rw [BitVec.toNat_and, BitVec.ofInt_natCast, BitVec.toNat_ofNat, Nat.mod_eq_of_lt (by simpa using hx), show (BitVec.ofInt 64 65535).toNat = 65535 by decide, h, wu64]
  omega
theorem Hk.al {len n : Nat} {K : Nat → Int} {al al' : Nat → Bool} {a a' : Nat → Int} (h : Hk len n K al a) (he : ∀ v, v < len → al v = al' v) (ha : a = a') : Hk len n K al' a' := by
  subst ha
  exact ⟨h.heap, fun v hv => by rw [← he v hv]; exact h.uni v hv, h.own⟩
section
variable {g : Nat → Int}
theorem kF_inj {u v : Nat} (hu : u ≤ 64) (hv : v ≤ 64) (h : kF g u = kF g v) : u = v := by
  rw [(kF_e hu).2, (kF_e hv).2] at h
  have := dF_bd (g := g) (i := u)
  have := dF_bd (g := g) (i := v)
  omega
theorem kF_tk {v : Nat} (hv : v ≤ 64) : tkW (kF g v) = v := by
  have := dF_bd (g := g) (i := v)
  unfold tkW
  rw [(kF_e hv).2, show dF g v * 1099511627776 + (v : Int) * 65536 + v = (((dF g v).toNat * 1099511627776 + v * 65536 + v : Nat) : Int) by omega, and_nat (by omega), w64 (by omega)]
  omega
theorem kF_le {u v : Nat} (hu : u ≤ 64) (hv : v ≤ 64) (h : kF g u ≤ kF g v) : ¬ dF g v < dF g u ∧ (dF g v = dF g u → u ≤ v) := by
  rw [(kF_e hu).2, (kF_e hv).2] at h
  have := dF_bd (g := g) (i := u)
  have := dF_bd (g := g) (i := v)
  omega
theorem kF_ok {v : Nat} (hv : v ≤ 64) : 0 ≤ kF g v ∧ kF g v ≤ 18446744073709551615 := by
  rw [(kF_e hv).2]
  have := dF_bd (g := g) (i := v)
  omega
end
/-- The level of a task. -/
def lvF (g : Nat → Int) (u : Nat) : Nat := (lF g u).toNat
theorem lF_bd {g : Nat → Int} {u : Nat} (h : 0 ≤ g u) : 0 ≤ lF g u ∧ lF g u < 3 := by
  have h1 := Int.tmod_nonneg 3 h
  have h2 := Int.tmod_lt_of_pos (g u) (show (0 : Int) < 3 by decide)
  unfold lF
  rw [wu64 (by omega)]
  omega
/-- Which tasks were taken; how many of each level. -/
def usd (tk : Nat → Nat) : Nat → Nat → Bool
  | 0, _ => false
  | j + 1, v => usd tk j v || decide (v = tk j)
def cntL (lv : Nat → Nat) (tk : Nat → Nat) : Nat → Nat → Nat
  | 0, _ => 0
  | j + 1, v => cntL lv tk j v + (if v = lv (tk j) then 1 else 0)
theorem cntL_le {lv tk : Nat → Nat} : ∀ {j v : Nat}, cntL lv tk j v ≤ j
  | 0, _ => Nat.le_refl _
  | j + 1, v => by
    have := @cntL_le lv tk j v
    show cntL lv tk j v + (if v = lv (tk j) then 1 else 0) ≤ j + 1
    split <;> omega
theorem usd_congr {tk tk' : Nat → Nat} : ∀ {j v : Nat}, (∀ i, i < j → tk i = tk' i) → usd tk j v = usd tk' j v
  | 0, _, _ => rfl
  | j + 1, v, h => by
    show (usd tk j v || decide (v = tk j)) = (usd tk' j v || decide (v = tk' j))
    rw [usd_congr fun i hi => h i (by omega), h j (by omega)]
theorem cntL_congr {lv tk tk' : Nat → Nat} : ∀ {j v : Nat}, (∀ i, i < j → tk i = tk' i) → cntL lv tk j v = cntL lv tk' j v
  | 0, _, _ => rfl
  | j + 1, v, h => by
    show cntL lv tk j v + (if v = lv (tk j) then 1 else 0) = cntL lv tk' j v + (if v = lv (tk' j) then 1 else 0)
    rw [cntL_congr fun i hi => h i (by omega), h j (by omega)]
/-- What holds when j tasks were taken. -/
structure DI (D tb : Int) (n N : Nat) (g : Nat → Int) (j : Nat) (m : Mm) (l : El) (tk : Nat → Nat) (S : Nat → Nat → Int) : Prop where
  jN : j ≤ N
  sz : m.g 2 = ((N - j : Nat) : Int)
  sl : m.g 12 = 0
  hk : Hk 8 (N - j) (kF g) (fun v => decide (v < N) && !usd tk j v) (fun i => m.g (4 + i))
  ord : ∀ i, i < j → tk i < N ∧ usd tk i (tk i) = false ∧ ∀ u, u < N → usd tk i u = false → kF g (tk i) ≤ kF g u
  lev : ∀ u : Nat, u < N → m.g (tb + u * 5 + 1).toNat = lF g u
  ws : Ws (yF D tb) n 3 m (cntL (lvF g) tk j) S
  tp : ∀ v, v < 3 → m.g (Tq (yF D tb) v).toNat = 0
  pos : ∀ i, i < j → S (lvF g (tk i)) (cntL (lvF g) tk i (lvF g (tk i))) = tk i
  ev : l.n = j ∧ ∀ i, i < j → l.v.k i = 13 ∧ l.v.t i = tk i
theorem Ws_congr {y : Ly} {n L : Nat} {m m' : Mm} {ls : Nat → Nat} {S : Nat → Nat → Int} {b : Int} (h : Qp y n L) (hw : Ws y n L m ls S) (hb : b ≤ y.bm) (hg : ∀ e : Nat, b ≤ e → m'.g e = m.g e) (ho : ∀ e, 0 ≤ m'.g e ∧ m'.g e ≤ 18446744073709551615) : Ws y n L m' ls S := by
  have hB := h.hbm
  have eb : m'.g y.bm.toNat = m.g y.bm.toNat := hg _ (by omega)
  have e0 : ∀ v, m'.g (Tq y v).toNat = m.g (Tq y v).toNat := fun v => hg _ (by have := h.beg (v := v); omega)
  have e1 : ∀ v, m'.g (Tq y v + 1).toNat = m.g (Tq y v + 1).toNat := fun v => hg _ (by have := h.beg (v := v); omega)
  refine ⟨⟨ho, fun v hv => by rw [e0, e1]; exact hw.wf.t v hv, by rw [eb]; exact hw.wf.B, fun v hv hl => by rw [eb]; rw [e0, e1] at hl; exact hw.wf.bit v hv hl⟩, fun v hv => by rw [e0, e1]; exact hw.len v hv, fun v j hv hj => ?_, hw.rng⟩
  rw [e0, hg _ (by
    have := h.beg (v := v)
    have := Int.emod_nonneg (m.g (Tq y v).toNat + j) (show y.D ≠ 0 by have := h.hD; omega)
    omega)]
  exact hw.val v j hv hj
theorem qpF {D tb : Int} {n : Nat} (hD : 1 ≤ D ∧ D ≤ 64) (hn : (n : Int) = 61 + 3 * D) : Qp (yF D tb) n 3 := ⟨rfl, rfl, by decide, hD, by show (0 : Int) ≤ 14 ∧ (14 : Int) < 15; decide, by show (15 : Int) ≤ 1000; decide, by show (15 : Int) + ((3 : Nat) : Int) * (2 + D) ≤ n; omega⟩
end Go.Proofs.YtomaagmleafjeaaGreat.Md
