/- Entries of a worker: the conditions, printed by program. -/
import Derived.Test.YtomaagmleafjeaaMMdAl
import Derived.Test.YtomaagmleafjeaaMW
import Derived.Test.YtomaagmleafjeaaMMdBr
import Derived.Test.YtomaagmleafjeaaML
set_option linter.unusedVariables false
set_option linter.unusedSimpArgs false
set_option maxRecDepth 100000
namespace Go.Proofs.Ytomaagmleafjeaa.Md
open Go Go.RowKit Sx Cn Dc Ck Vc

end Go.Proofs.Ytomaagmleafjeaa.Md

/- Entries of a worker alone, by the reference: the conditions hold. -/
set_option maxRecDepth 100000
namespace Go.Proofs.Ytomaagmleafjeaa.Md
open Go Go.RowKit Sx Cn Dc Ck Vc
section
variable {c : Cf} {l : Int}
theorem ent_bd (ok : okY c) (hl : 0 ≤ l ∧ l < c.L) : (0 ≤ l * (2 + c.D) ∧ l * (2 + c.D) + (2 + c.D) ≤ c.W * c.L * (2 + c.D)) ∧ (0 ≤ c.W * c.L ∧ c.W * c.L ≤ 1024) ∧ c.W * c.L * (2 + c.D) ≤ 67584 := by
  obtain ⟨hW, hL, hC, hT, hD, hH⟩ := ok
  have b1 := mulB (by omega : 0 ≤ c.W) hW.2 (by omega : 0 ≤ c.L) hL.2
  have b2 := mulB (by omega : 0 ≤ c.W * c.L) b1.2 (by omega : 0 ≤ 2 + c.D) (by omega : 2 + c.D ≤ 66)
  have b3 : 0 ≤ l * (2 + c.D) := Int.mul_nonneg hl.1 (by omega)
  have b4 : 1 * c.L ≤ c.W * c.L := Int.mul_le_mul_of_nonneg_right hW.1 (by omega)
  have b5 : (l + 1) * (2 + c.D) ≤ c.W * c.L * (2 + c.D) := Int.mul_le_mul_of_nonneg_right (by omega) (by omega)
  rw [Int.add_mul, Int.one_mul] at b5
  omega
end
end Go.Proofs.Ytomaagmleafjeaa.Md
