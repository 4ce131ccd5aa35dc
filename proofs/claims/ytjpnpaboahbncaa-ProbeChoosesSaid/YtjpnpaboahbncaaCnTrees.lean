/- Functions of integers: the executor's trees, printed by program. -/
import Derived.Test.YtjpnpaboahbncaaCnDefs
set_option linter.unusedVariables false
set_option maxRecDepth 100000
namespace Go.Proofs.Ytjpnpaboahbncaa.Cn
open Go Go.RowKit Sx

theorem dr_tree (a b : Int) : drTree a b =
  Out.br (decide (b < Int.ofNat 1))
    (Out.leaf (SV.c (SC.ki IntKind.i64 (Int.ofNat 0)), { h := [], nxt := 0, D := fun x => True }))
    (Out.need (b ≠ Int.ofNat 0)
    (Out.br (decide (a.tmod b < Int.ofNat 0))
    (Out.need (b ≠ Int.ofNat 0)
    (Out.leaf (SV.c (SC.iv IntKind.i64 (IntKind.i64.wrap (a.tmod b + b))), { h := [], nxt := 0, D := fun x => True })))
    (Out.need (b ≠ Int.ofNat 0)
    (Out.leaf (SV.c (SC.iv IntKind.i64 (a.tmod b)), { h := [], nxt := 0, D := fun x => True }))))) := by kernel_rfl

theorem mod_tree (a b : Int) : modTree a b =
  Out.br (decide (b < Int.ofNat 1))
    (Out.leaf (SV.c (SC.ki IntKind.i64 (Int.ofNat 0)), { h := [], nxt := 0, D := fun x => True }))
    (Out.need (b ≠ Int.ofNat 0)
    (Out.br (decide (a.tmod b < Int.ofNat 0))
    (Out.leaf (SV.c (SC.iv IntKind.i64 (IntKind.i64.wrap (a.tmod b + b))), { h := [], nxt := 0, D := fun x => True }))
    (Out.leaf (SV.c (SC.iv IntKind.i64 (a.tmod b)), { h := [], nxt := 0, D := fun x => True })))) := by kernel_rfl

theorem pw_round (i : Int) (j : Nat) : pwRound i j =
  Out.br (decide (i - (↑j : Int) > Int.ofNat 0))
    (Out.leaf (Ex.normal, { tmps := [some (SV.c (SC.iv IntKind.i64 (IntKind.i64.wrap (i - (↑j : Int) - Int.ofNat 1)))), none, none, some (SV.c (SC.iv IntKind.u64 (IntKind.u64.wrap (Int.ofNat 2 ^ j * Int.ofNat 2)))), none, none, none, none, none, none, none], H := { h := [], nxt := 0, D := fun x => True } }))
    (Out.leaf (Ex.exit 0, { tmps := [none, none, none, some (SV.c (SC.iv IntKind.u64 (Int.ofNat 2 ^ j))), none, none, none, none, none, none, none], H := { h := [], nxt := 0, D := fun x => True } })) := by kernel_rfl

theorem pw_tree (i : Int) : pwTree i =
  Out.need ((i ≤ Int.ofNat 63 ∧ 0 ≤ i.toNat) ∧ (∀ (k : Nat), True) ∧ (∀ (k : Nat), True) ∧ ((IntKind.i64 = IntKind.i64 ∧ i = i - (↑0 : Int)) ∧ (IntKind.u64 = IntKind.u64 ∧ Int.ofNat 1 = Int.ofNat 2 ^ 0) ∧ True) ∧ True)
    (Out.leaf (SV.c (SC.iv IntKind.u64 (pw i)), { h := [], nxt := 0, D := fun x => True })) := by kernel_rfl


end Go.Proofs.Ytjpnpaboahbncaa.Cn
