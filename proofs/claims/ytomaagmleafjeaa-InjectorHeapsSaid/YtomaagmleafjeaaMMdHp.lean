/- Heaps in the cells of a memory, the plain law: a key that climbs, a key that sinks. -/
import Derived.Test.YtomaagmleafjeaaMMd
set_option linter.unusedVariables false
set_option linter.unusedSimpArgs false
set_option linter.unusedVariables false
set_option linter.unusedSimpArgs false
set_option maxRecDepth 100000
namespace Go.Proofs.Ytomaagmleafjeaa.Md
open Go Go.RowKit
/-- A function with another value at one place. -/
def put (g : Nat → Int) (i : Nat) (v : Int) : Nat → Int := fun e => if e = i then v else g e
theorem put_eq {g : Nat → Int} {i : Nat} {v : Int} : put g i v i = v := if_pos rfl
theorem put_ne {g : Nat → Int} {i j : Nat} {v : Int} (h : j ≠ i) : put g i v j = g j := if_neg h
/-- The key k climbs from place i. -/
def upM : Nat → Int → (Nat → Int) → (Nat → Int)
  | 0, k, g => put g 0 k
  | i + 1, k, g => if k < g (i / 2) then upM (i / 2) k (put g (i + 1) (g (i / 2))) else put g (i + 1) k
termination_by i => i
decreasing_by omega
def lsr (n : Nat) (g : Nat → Int) (i : Nat) : Nat := if 2 * i + 2 < n ∧ g (2 * i + 2) < g (2 * i + 1) then 2 * i + 2 else 2 * i + 1
theorem lsr_bd {n : Nat} {g : Nat → Int} {i : Nat} (h : 2 * i + 1 < n) : i < lsr n g i ∧ lsr n g i < n ∧ (lsr n g i - 1) / 2 = i := by
  unfold lsr
  split <;> omega
/-- The key y sinks from place i, among the first n. -/
def dnM (n : Nat) (y : Int) : Nat → Nat → (Nat → Int) → (Nat → Int)
  | 0, i, g => put g i y
  | f + 1, i, g => if 2 * i + 1 < n ∧ g (lsr n g i) < y then dnM n y f (lsr n g i) (put g i (g (lsr n g i))) else put g i y
def one (b : Prop) [Decidable b] : Nat := if b then 1 else 0
def cnt (g : Nat → Int) (x : Int) : Nat → Nat
  | 0 => 0
  | n + 1 => cnt g x n + one (g n = x)
def heap (n : Nat) (g : Nat → Int) : Prop := ∀ j, 0 < j → j < n → g ((j - 1) / 2) ≤ g j
end Go.Proofs.Ytomaagmleafjeaa.Md
