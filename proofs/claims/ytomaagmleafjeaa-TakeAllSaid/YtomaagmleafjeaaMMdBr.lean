/- Branches that cannot be. -/
import Derived.Test.YtomaagmleafjeaaMMd
set_option linter.unusedVariables false
set_option linter.unusedSimpArgs false
set_option linter.unusedVariables false
set_option linter.unusedSimpArgs false
namespace Go.Proofs.Ytomaagmleafjeaa.Md
open Go Go.RowKit Sx Cn Dc Ck Vc
theorem cne {c k : Int} (hc : c = k) (h : (c != k) = true) : False := by
  subst hc
  simp at h
theorem dlt {a b : Int} (hc : ¬ a < b) {I : Decidable (a < b)} (h : @decide (a < b) I = true) : False := hc (of_decide_eq_true h)
theorem dge {a b : Int} (hc : ¬ a ≥ b) {I : Decidable (a ≥ b)} (h : @decide (a ≥ b) I = true) : False := hc (of_decide_eq_true h)
theorem btf {b : Bool} (hc : b = false) (h : b = true) : False := by rw [hc] at h; cases h
theorem bft {b : Bool} (hc : b = true) (h : b = false) : False := by rw [hc] at h; cases h
end Go.Proofs.Ytomaagmleafjeaa.Md
