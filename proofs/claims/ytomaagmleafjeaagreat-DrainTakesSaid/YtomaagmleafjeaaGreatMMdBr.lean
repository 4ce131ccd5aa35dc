/- Branches that cannot be. -/
import Derived.Test.YtomaagmleafjeaaGreatMMd
set_option linter.unusedVariables false
set_option linter.unusedSimpArgs false
set_option linter.unusedVariables false
set_option linter.unusedSimpArgs false
namespace Go.Proofs.YtomaagmleafjeaaGreat.Md
open Go Go.RowKit Sx Cn Dc Ck Vc
theorem cne {c k : Int} (hc : c = k) (h : (c != k) = true) : False := by
  subst hc
  simp at h
theorem neg_bad {v : Nat} {I : Decidable ((v : Int) < Int.ofNat 0)} (h : @decide ((v : Int) < Int.ofNat 0) I = true) : False := by
  have := of_decide_eq_true h
  simp only [Int.ofNat_eq_natCast] at this
  omega
theorem dlt {a b : Int} (hc : ¬ a < b) {I : Decidable (a < b)} (h : @decide (a < b) I = true) : False := hc (of_decide_eq_true h)
theorem dge {a b : Int} (hc : ¬ a ≥ b) {I : Decidable (a ≥ b)} (h : @decide (a ≥ b) I = true) : False := hc (of_decide_eq_true h)
theorem btf {b : Bool} (hc : b = false) (h : b = true) : False := by rw [hc] at h; cases h
theorem bft {b : Bool} (hc : b = true) (h : b = false) : False := by rw [hc] at h; cases h
end Go.Proofs.YtomaagmleafjeaaGreat.Md
