/- Heaps, the plain law: what counts is what lies among the first places. -/
import Derived.Test.YtomaagmleafjeaaMMdHp
set_option linter.unusedVariables false
set_option linter.unusedSimpArgs false
set_option linter.unusedVariables false
set_option linter.unusedSimpArgs false
set_option maxRecDepth 100000
namespace Go.Proofs.Ytomaagmleafjeaa.Md
open Go Go.RowKit
theorem put_congr {N i j : Nat} {v : Int} {g g' : Nat → Int} (h : ∀ j, j < N → j ≠ i → g j = g' j) (hj : j < N) : put g i v j = put g' i v j := by
  by_cases c : j = i
  · subst c; rw [put_eq, put_eq]
  · rw [put_ne c, put_ne c]; exact h j hj c
theorem up_congr {k : Int} {N : Nat} : ∀ {i : Nat} {g g' : Nat → Int}, i < N → (∀ j, j < N → j ≠ i → g j = g' j) → ∀ j, j < N → upM i k g j = upM i k g' j
  | 0, g, g', hi, h, j, hj => by
    rw [upM, upM]
    exact put_congr h hj
  | i + 1, g, g', hi, h, j, hj => by
    have e : g (i / 2) = g' (i / 2) := h _ (by omega) (by omega)
    rw [upM, upM, e]
    split
    · refine up_congr (by omega) (fun q hq hne => ?_) j hj
      exact put_congr (fun z hz hz2 => h z hz hz2) hq
    · exact put_congr h hj
termination_by i => i
decreasing_by omega
theorem lsr_congr {n i : Nat} {g g' : Nat → Int} (h : ∀ j, j < n → j ≠ i → g j = g' j) : lsr n g i = lsr n g' i := by
  unfold lsr
  by_cases c : 2 * i + 2 < n
  · rw [h (2 * i + 2) c (by omega), h (2 * i + 1) (by omega) (by omega)]
  · rw [if_neg (fun q => c q.1), if_neg (fun q => c q.1)]
theorem dn_congr {y : Int} {n : Nat} : ∀ {f i : Nat} {g g' : Nat → Int}, (∀ j, j < n → j ≠ i → g j = g' j) → ∀ j, j < n → dnM n y f i g j = dnM n y f i g' j
  | 0, i, g, g', h, j, hj => by
    rw [dnM, dnM]
    exact put_congr h hj
  | f + 1, i, g, g', h, j, hj => by
    rw [dnM, dnM, lsr_congr h]
    by_cases c : 2 * i + 1 < n
    · obtain ⟨b1, b2, b3⟩ := lsr_bd (g := g') c
      have e : g (lsr n g' i) = g' (lsr n g' i) := h _ b2 (by omega)
      rw [e]
      split
      · exact dn_congr (fun q hq hne => put_congr h hq) j hj
      · exact put_congr h hj
    · rw [if_neg (fun q => c q.1), if_neg (fun q => c q.1)]
      exact put_congr h hj
theorem dn_fuel {y : Int} {n : Nat} : ∀ {f f' i : Nat} {g : Nat → Int}, i < n → n ≤ i + f → n ≤ i + f' → dnM n y f i g = dnM n y f' i g
  | 0, f', i, g, hi, h, h' => by omega
  | f + 1, 0, i, g, hi, h, h' => by omega
  | f + 1, f' + 1, i, g, hi, h, h' => by
    rw [dnM, dnM]
    by_cases c : 2 * i + 1 < n ∧ g (lsr n g i) < y
    · rw [if_pos c, if_pos c]
      obtain ⟨b1, b2, b3⟩ := lsr_bd (g := g) c.1
      exact dn_fuel b2 (by omega) (by omega)
    · rw [if_neg c, if_neg c]
end Go.Proofs.Ytomaagmleafjeaa.Md
