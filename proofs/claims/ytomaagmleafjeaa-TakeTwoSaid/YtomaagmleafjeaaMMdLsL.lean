/- LevelsStacks, the plain law: the deques of a worker alone are stacks. -/
import Derived.Test.YtomaagmleafjeaaMMdLbL
set_option linter.unusedVariables false
set_option linter.unusedSimpArgs false
set_option maxRecDepth 100000
namespace Go.Proofs.Ytomaagmleafjeaa.Md
open Go Go.RowKit Sx Cn Dc Ck Vc
/-- The deques hold the stacks S, of the lengths ls. -/
structure Ws (y : Ly) (n L : Nat) (m : Mm) (ls : Nat → Nat) (S : Nat → Nat → Int) : Prop where
  wf : Wf y n L m
  len : ∀ v, v < L → m.g (Tq y v + 1).toNat = m.g (Tq y v).toNat + ls v
  val : ∀ v j, v < L → j < ls v → m.g (Tq y v + 2 + (m.g (Tq y v).toNat + j) % y.D).toNat = S v j
  rng : ∀ v j, v < L → j < ls v → 0 ≤ S v j ∧ S v j ≤ 9223372036854775807
theorem mod_ne {t D : Int} {i j : Nat} (hD : 0 < D) (h : i < j) (h2 : (j : Int) < i + D) : (t + i) % D ≠ (t + j) % D := fun e => by
  have h1 := Int.emod_emod_of_dvd (t + j - (t + i)) (Int.dvd_refl D)
  have h3 : (t + j - (t + i)) % D = 0 := by rw [Int.sub_emod, e, Int.sub_self, Int.zero_emod]
  rw [show t + (j : Int) - (t + i) = j - i by omega, Int.emod_eq_of_lt (by omega) (by omega)] at h3
  omega
section
variable {y : Ly} {n L : Nat} {m : Mm} {v : Nat} {M : Nat} {ls : Nat → Nat} {S : Nat → Nat → Int}
end
end Go.Proofs.Ytomaagmleafjeaa.Md
