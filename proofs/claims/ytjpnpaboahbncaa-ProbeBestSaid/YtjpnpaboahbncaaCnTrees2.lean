/- Functions of integers: the executor's trees, printed by program. -/
import Derived.Test.YtjpnpaboahbncaaCnDefs2
set_option linter.unusedVariables false
set_option maxRecDepth 100000
namespace Go.Proofs.Ytjpnpaboahbncaa.Cn
open Go Go.RowKit Sx

theorem bt_tree (x i : Int) : btTree x i =
  Out.br (decide (i ≥ Int.ofNat 0))
    (Out.br (decide (i < Int.ofNat 64))
    (Out.need (i ≤ Int.ofNat 63)
    (Out.need (pw i ≠ Int.ofNat 0)
    (Out.need (Int.ofNat 2 ≠ Int.ofNat 0)
    (Out.leaf (SV.c (SC.bv ((IntKind.u64.wrap (x.tdiv (pw i))).tmod (Int.ofNat 2) == Int.ofNat 1)), { h := [], nxt := 0, D := fun x => True })))))
    (Out.leaf (SV.c (SC.kb false), { h := [], nxt := 0, D := fun x => True })))
    (Out.leaf (SV.c (SC.kb false), { h := [], nxt := 0, D := fun x => True })) := by kernel_rfl

theorem words_hi_tree (x : Int) : hiTree x =
  Out.need (Int.ofNat 0 ≤ x ∧ x ≤ Int.ofNat 18446744073709551615)
    (Out.leaf (SV.c (SC.iv IntKind.i64 (IntKind.i64.wrap ((↑(Lib.bitLen x.toNat) : Int) - Int.ofNat 1))), { h := [], nxt := 0, D := fun x => True })) := by kernel_rfl

theorem hi_round (x : Int) (j : Nat) : hiRound x j =
  Out.br (decide (Int.ofNat 63 - (↑j : Int) ≥ Int.ofNat 0))
    (Out.need (Int.ofNat 0 ≤ x ∧ x ≤ Int.ofNat 18446744073709551615)
    (Out.br (bt x (Int.ofNat 63 - (↑j : Int)))
    (Out.leaf (Ex.ret, { tmps := [none, none, some (SV.c (SC.iv IntKind.i64 (Int.ofNat 63 - (↑j : Int)))), none, none, none, none, none, none, none, none, none], H := { h := [], nxt := 0, D := fun x => True } }))
    (Out.leaf (Ex.normal, { tmps := [some (SV.c (SC.iv IntKind.u64 x)), none, none, some (SV.c (SC.iv IntKind.i64 (IntKind.i64.wrap (Int.ofNat 63 - (↑j : Int) - Int.ofNat 1)))), none, none, none, none, none, none, none, none], H := { h := [], nxt := 0, D := fun x => True } }))))
    (Out.leaf (Ex.exit 0, { tmps := [none, none, none, none, none, none, none, none, none, none, none, none], H := { h := [], nxt := 0, D := fun x => True } })) := by kernel_rfl

theorem high_tree (x : Int) : highTree x =
  Out.need (Ihi x 0 ∧ (∀ (k : Nat), True) ∧ (∀ (k : Nat), True) ∧ ((IntKind.u64 = IntKind.u64 ∧ x = x) ∧ (IntKind.i64 = IntKind.i64 ∧ Int.ofNat 63 = Int.ofNat 63 - (↑0 : Int)) ∧ True) ∧ True)
    (Out.br (decide (x = Int.ofNat 0))
    (Out.leaf (SV.c (SC.ki IntKind.i64 (Int.negSucc 0)), { h := [], nxt := 0, D := fun x => True }))
    (Out.leaf (SV.c (SC.iv IntKind.i64 (hi x)), { h := [], nxt := 0, D := fun x => True }))) := by kernel_rfl


end Go.Proofs.Ytjpnpaboahbncaa.Cn
