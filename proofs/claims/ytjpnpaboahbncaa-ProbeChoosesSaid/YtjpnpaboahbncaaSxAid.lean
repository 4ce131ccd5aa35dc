/- Small aids for what is left when the executor has done its part. -/
import Derived.Test.YtjpnpaboahbncaaSxLoop
import Derived.IntWalk
set_option linter.unusedVariables false
namespace Go.Proofs.Ytjpnpaboahbncaa.Sx
open Go Go.RowKit
theorem w64 {n : Int} (h : -9223372036854775808 ≤ n ∧ n ≤ 9223372036854775807) : IntKind.i64.wrap n = n := by
  rw [IntWalk.i64_left]; exact IntWalk.wrap64_in n h
theorem wu64 {n : Int} (h : 0 ≤ n ∧ n ≤ 18446744073709551615) : IntKind.u64.wrap n = n := by
  simp only [IntKind.wrap, IntKind.bits, IntKind.signed]
  simp
  omega
end Go.Proofs.Ytjpnpaboahbncaa.Sx
