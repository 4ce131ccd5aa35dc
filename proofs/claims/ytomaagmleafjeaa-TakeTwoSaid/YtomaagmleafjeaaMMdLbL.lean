/- The deques of a worker alone: Push and Pop keep them as they should be. -/
import Derived.Test.YtomaagmleafjeaaMMdLv
import Derived.Test.YtomaagmleafjeaaMMdBitD
import Derived.Test.YtomaagmleafjeaaMW
set_option linter.unusedVariables false
set_option linter.unusedSimpArgs false
set_option maxRecDepth 100000
namespace Go.Proofs.Ytomaagmleafjeaa.Md
open Go Go.RowKit Sx Cn Dc Ck Vc
section
variable {y : Ly} {n L : Nat} {m : Mm} {v : Nat} {M : Nat}
theorem orB_or {B : Int} {u v : Nat} (h0 : 0 ≤ B) (h1 : B < 64) (hv : v < 6) (hu : u < 6) : bitN (orB B v) v ∧ (bitN B u → bitN (orB B v) u) := by
  have h := or_fin ⟨B.toNat, by omega⟩ ⟨v, hv⟩ ⟨u, hu⟩
  simp only at h
  unfold bitN orB
  split
  · rename_i hc
    rw [if_pos hc] at h
    exact h
  · rename_i hc
    rw [if_neg hc] at h
    have e : ∀ K : Nat, (B + (K : Int)).toNat = B.toNat + K := fun K => by omega
    rw [e]
    exact h
theorem orB_lim {B : Int} {v : Nat} (h0 : 0 ≤ B) (hL : L ≤ 6) (h1 : B < 2 ^ L) (hv : v < L) : 0 ≤ orB B v ∧ orB B v < 2 ^ L := by
  have hp := pow_le hL
  have e : ((2 ^ L : Nat) : Int) = (2 : Int) ^ L := Int.natCast_pow ..
  have h := lim_fin ⟨L, by omega⟩ ⟨B.toNat, by omega⟩ ⟨v, by omega⟩ (by show B.toNat < 2 ^ L; omega) hv
  simp only at h
  unfold orB
  split
  · exact ⟨h0, h1⟩
  · rename_i hc
    rw [if_neg hc] at h
    generalize 2 ^ v = K at *
    omega
end
end Go.Proofs.Ytomaagmleafjeaa.Md
