/- Entries of a worker: the conditions, printed by program. -/
import Derived.Test.YtomaagmleafjeaaMMdEtD
import Derived.Test.YtomaagmleafjeaaMW
import Derived.Test.YtomaagmleafjeaaMMdBr
import Derived.Test.YtomaagmleafjeaaML
import Derived.Test.YtomaagmleafjeaaMMd
set_option linter.unusedVariables false
set_option linter.unusedSimpArgs false
set_option linter.unusedVariables false
set_option maxRecDepth 100000
namespace Go.Proofs.Ytomaagmleafjeaa.Md
open Go Go.RowKit Sx Cn Dc Ck Vc

theorem vClW_eq (n cap : Nat) (g : Nat → Int) : vClW n cap g =
  V.need (∃ (x : Bool), x = true → ¬(0 < 1 ∧ 0 < n))
    (V.any Bool (fun (b : Bool) => b = true → ¬(0 < 1 ∧ 0 < n)) fun (x : Bool) => V.br x
    (V.need (n ≤ 0)
    (V.need (0 = n)
    (nN [(2, .eq 0 0)]
    (V.need (n ≤ 0)
    (nN [(1, .pf (∀ (e : Nat), e < n → g e = g e) (by intros; rfl))] V.ok)))))
    (V.need (0 + n ≤ n)
    (nN [(1, .eq 0 0)]
    (V.need (0 + n ≤ 9223372036854775807 ∧ (0 + n) * 8 ≤ 140737488355328)
    (V.any Nat (fun (x : Nat) => 0 + n ≤ x) fun (x : Nat) => V.need (n ≤ x)
    (V.need (0 + n = n)
    (nN [(2, .pf (x = x) rfl)]
    (V.need (n ≤ 0 + n)
    (V.need (∀ (e : Nat), e < n → g (0 + e) = g e) V.ok))))))))) := by kernel_rfl


end Go.Proofs.Ytomaagmleafjeaa.Md

/- Entries of a worker alone, by the reference: the conditions hold. -/
set_option linter.unusedVariables false
set_option linter.unusedSimpArgs false
set_option maxRecDepth 100000
namespace Go.Proofs.Ytomaagmleafjeaa.Md
open Go Go.RowKit Sx Cn Dc Ck Vc
section
variable {c : Cf} {l : Int}
end
end Go.Proofs.Ytomaagmleafjeaa.Md

/- Entries of a worker alone, by the reference; cells copied: the contracts. -/
set_option linter.unusedVariables false
set_option linter.unusedSimpArgs false
set_option maxRecDepth 100000
namespace Go.Proofs.Ytomaagmleafjeaa.Md
open Go Go.RowKit Sx Cn Dc Ck Vc
theorem vhClW {n cap : Nat} {g : Nat → Int} (hn : n ≤ 1000000) : VHolds (vClW n cap g) := by
  constructor
  rw [vClW_eq]
  refine V.needI ⟨false, fun h => by cases h⟩ (V.anyI fun b hb => V.brI (fun h => ?_) fun h => ?_)
  · have : n = 0 := by have := hb h; omega
    subst this
    (repeat' first | with_reducible exact V.okI | with_reducible refine V.brT ?_ | with_reducible refine V.brF ?_ | with_reducible refine V.brI ?_ ?_ | with_reducible refine V.anyI ?_ | with_reducible refine nN_h rfl ?_ | with_reducible refine V.needI ?_ ?_ | with_reducible intro _)
    all_goals first | omega | rfl
  · (repeat' first | with_reducible exact V.okI | with_reducible refine V.brT ?_ | with_reducible refine V.brF ?_ | with_reducible refine V.brI ?_ ?_ | with_reducible refine V.anyI ?_ | with_reducible refine nN_h rfl ?_ | with_reducible refine V.needI ?_ ?_ | with_reducible intro _)
    all_goals first | omega | (rw [Nat.zero_add]) | (intros; rw [Nat.zero_add])
noncomputable section
def cClW : List SV → Hp → Out (SV × Hp) := fun args H => match args with
  | [.c (.slc k _ _ _ n cap)] => fN k fun k => match (find k H.h).map colsB with
    | some [col] => match colG col with
      | some g => useP [k] 1 [.c (slK 0 1 n.v cap.v)] [(0, .view 1 (fun _ => n.v) [.ci .u64 fun _ e => g e])] (.need (n.v ≤ 1000000) (.any Nat (fun c => n.v ≤ c) fun c => .leaf (.c (slK 1 1 n.v c), ⟨[(1, .row 58 c n.v [.ci .u64 fun _ e => g e])], 2, fun _ => True⟩))) args H
      | none => .bad 432
    | _ => .bad 433
  | _ => .bad 435
theorem cClW_ok : ContractOK P fClW cClW := contract_of_useP fun args H => by
  unfold cClW
  simp only [fN_eq]
  repeat' split
  all_goals first | exact .inl ⟨_, rfl⟩ | exact .inr ⟨_, _, _, _, _, rfl, local_of_ver ConOK.nil fun h => vhClW h⟩
end
end Go.Proofs.Ytomaagmleafjeaa.Md
