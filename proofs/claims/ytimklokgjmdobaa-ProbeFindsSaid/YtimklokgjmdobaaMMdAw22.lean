/- The sanity check: the conditions, printed by program. -/
import Derived.Test.YtimklokgjmdobaaMMdAw22D
import Derived.Test.YtimklokgjmdobaaMW
import Derived.Test.YtimklokgjmdobaaMV
import Derived.Test.YtimklokgjmdobaaMMd
import Derived.Test.YtimklokgjmdobaaMNw
set_option linter.unusedVariables false
set_option linter.unusedSimpArgs false
set_option maxRecDepth 100000
namespace Go.Proofs.Ytimklokgjmdobaa.Md
open Go Go.RowKit Sx Cn Dc Ck Vc

theorem vAw22_eq  : V.pr (.t (.t (.t (.t (.t .z))))) (vAw22) =
  nN [(2, .eq 3 3), (1, .eqI 0 0), (1, .eqI 2 2), (1, .le 1 1), (1, .le2 3 3 3 3)]
    (V.need (∀ (i e : Nat), i = 0 ∧ e < 3 → e < 3)
    (V.need (∀ (i e : Nat), i = 0 ∧ e < 3 → e = 0 → Int.ofNat 1 = numAt [SC.ki IntKind.u64 (Int.ofNat 1), SC.ki IntKind.u64 (Int.ofNat 6), SC.ki IntKind.u64 (Int.ofNat 4)] e)
    (V.need (∀ (i e : Nat), i = 0 ∧ e < 3 → e = 1 → Int.ofNat 6 = numAt [SC.ki IntKind.u64 (Int.ofNat 1), SC.ki IntKind.u64 (Int.ofNat 6), SC.ki IntKind.u64 (Int.ofNat 4)] e)
    (V.need (∀ (i e : Nat), i = 0 ∧ e < 3 → e = 2 → Int.ofNat 4 = numAt [SC.ki IntKind.u64 (Int.ofNat 1), SC.ki IntKind.u64 (Int.ofNat 6), SC.ki IntKind.u64 (Int.ofNat 4)] e)
    (V.need (3 ≤ 1000000 ∧ ∀ (j : Nat), j < 3 → Int.ofNat 0 ≤ numAt [SC.ki IntKind.u64 (Int.ofNat 1), SC.ki IntKind.u64 (Int.ofNat 6), SC.ki IntKind.u64 (Int.ofNat 4)] j ∧ numAt [SC.ki IntKind.u64 (Int.ofNat 1), SC.ki IntKind.u64 (Int.ofNat 6), SC.ki IntKind.u64 (Int.ofNat 4)] j ≤ Int.ofNat 18446744073709551615)
    (nN [(2, .eq 3 3), (1, .eqI 0 0), (1, .eqI 1 1), (1, .le 1 1), (1, .le2 3 3 3 3)]
    (V.need (∀ (i e : Nat), i = 0 ∧ e < 3 → e < 3)
    (V.need (∀ (i e : Nat), i = 0 ∧ e < 3 → e = 0 → Int.ofNat 1 = numAt [SC.ki IntKind.u64 (Int.ofNat 1), SC.ki IntKind.u64 (Int.ofNat 6), SC.ki IntKind.u64 (Int.ofNat 4)] e)
    (V.need (∀ (i e : Nat), i = 0 ∧ e < 3 → e = 1 → Int.ofNat 6 = numAt [SC.ki IntKind.u64 (Int.ofNat 1), SC.ki IntKind.u64 (Int.ofNat 6), SC.ki IntKind.u64 (Int.ofNat 4)] e)
    (V.need (∀ (i e : Nat), i = 0 ∧ e < 3 → e = 2 → Int.ofNat 4 = numAt [SC.ki IntKind.u64 (Int.ofNat 1), SC.ki IntKind.u64 (Int.ofNat 6), SC.ki IntKind.u64 (Int.ofNat 4)] e)
    (V.need (3 ≤ 1000000 ∧ ∀ (j : Nat), j < 3 → Int.ofNat 0 ≤ numAt [SC.ki IntKind.u64 (Int.ofNat 1), SC.ki IntKind.u64 (Int.ofNat 6), SC.ki IntKind.u64 (Int.ofNat 4)] j ∧ numAt [SC.ki IntKind.u64 (Int.ofNat 1), SC.ki IntKind.u64 (Int.ofNat 6), SC.ki IntKind.u64 (Int.ofNat 4)] j ≤ Int.ofNat 18446744073709551615)
    (nN [(2, .eq 2 2), (2, .eqI 0 0), (1, .le 1 1), (1, .le2 2 2 2 2)]
    (V.need (∀ (i e : Nat), i = 0 ∧ e < 2 → e < 2)
    (V.need (∀ (i e : Nat), i = 0 ∧ e < 2 → e = 0 → Int.ofNat 1 = numAt [SC.ki IntKind.u64 (Int.ofNat 1), SC.ki IntKind.u64 (Int.ofNat 0)] e)
    (V.need (∀ (i e : Nat), i = 0 ∧ e < 2 → e = 1 → Int.ofNat 0 = numAt [SC.ki IntKind.u64 (Int.ofNat 1), SC.ki IntKind.u64 (Int.ofNat 0)] e)
    (V.need (2 ≤ 1000000 ∧ ∀ (j : Nat), j < 2 → Int.ofNat 0 ≤ numAt [SC.ki IntKind.u64 (Int.ofNat 1), SC.ki IntKind.u64 (Int.ofNat 0)] j ∧ numAt [SC.ki IntKind.u64 (Int.ofNat 1), SC.ki IntKind.u64 (Int.ofNat 0)] j ≤ Int.ofNat 18446744073709551615)
    (nN [qE true, qE true, qE true, qE true, qE true]
    (V.need True
    (V.need ((-Int.ofNat 1 == -Int.ofNat 1) = true) V.ok))))))))))))))))))) := by kernel_rfl


end Go.Proofs.Ytimklokgjmdobaa.Md

/- The sanity check of chapter 22: the contract. -/
set_option maxRecDepth 100000
namespace Go.Proofs.Ytimklokgjmdobaa.Md
open Go Go.RowKit Sx Cn Dc Ck Vc
theorem vhAw22 : VHolds vAw22 := by
  refine VHolds.pr (vAw22_eq ..) ?_
  (with_reducible repeat' first | exact V.okI | refine V.brT ?_ | refine V.brF ?_ | refine V.brI ?_ ?_ | refine V.anyI ?_ | refine nN_h rfl ?_ | refine V.needI ?_ ?_ | intro _)
  all_goals first
    | rfl
    | (rename_i h1 h2; subst h2; rfl)
    | (rename_i h1; exact h1.2)
    | decide
    | (rename_i j hj; match j, hj with | 0, _ | 1, _ | 2, _ => decide)
    | (rename_i j hj; match j, hj with | 0, _ | 1, _ => decide)
    | (refine ⟨by decide, fun j hj => ?_⟩
       match j, hj with
       | 0, _ | 1, _ | 2, _ => exact ⟨by decide, by decide⟩)
    | (refine ⟨by decide, fun j hj => ?_⟩
       match j, hj with
       | 0, _ | 1, _ => exact ⟨by decide, by decide⟩)
    | trace_state
theorem aw22_ok : ContractOK P 6 conYes := conYes_ok (local_of_ps con22a_ok fun _ => vhAw22)
end Go.Proofs.Ytimklokgjmdobaa.Md
