/- ProbeBest: the function, what is said of its loop. -/
import Derived.Test.YtjpnpaboahbncaaPbLaw
set_option linter.unusedVariables false
namespace Go.Proofs.Ytjpnpaboahbncaa.Pb
open Go Go.RowKit Sx Cn
noncomputable section
/-- Whether the victim has not been met yet. -/
def ear (n : Nat) (v st : Int) : Nat → Bool
  | 0 => true
  | i + 1 => if vic n st i = v then false else ear n v st i
def sf (n : Nat) (s8 : Int) : Int := (IntKind.i64.wrap s8).tmod n
def best (n : Nat) (g : Nat → Int) (s8 st : Int) : Int × Int := cho g n (sf n s8) (IntKind.i64.wrap st) n
def J5 (n cap : Nat) (g : Nat → Int) (s8 st : Int) (i : Nat) : St := ⟨tms 121 [(0, slc0 n cap), (1, .c (.iv .u8 s8)), (2, .c (.iv .u8 st)), (7, iv n), (8, iv (best n g s8 st).1), (9, iv (best n g s8 st).2), (10, .c (.bv (ear n (best n g s8 st).1 st i))), (11, iv i)],
  ⟨hp0 n g, 1, fun _ => True⟩⟩
def I5 (n : Nat) (g : Nat → Int) (s8 st : Int) (i : Nat) : Prop := (1 ≤ n ∧ n ≤ 64) ∧ U64 n g ∧ (0 ≤ s8 ∧ s8 ≤ 255) ∧ (0 ≤ st ∧ st ≤ 255) ∧ i ≤ n
def F5 : St := ⟨noTm 121, ⟨[], 1, fun _ => True⟩⟩
def A5 : Out (Ex × St) := .leaf (.exit 0, F5)
def round5 (n cap : Nat) (g : Nat → Int) (s8 st : Int) (i : Nat) : Out (Ex × St) := roundT P con5 5 0 3 3 1 (patOf (J5 n cap g s8 st i) 121 []) (J5 n cap g s8 st i)
def ann5 (n cap : Nat) (g : Nat → Int) (s8 st : Int) : Ann := loopA (J5 n cap g s8 st) (I5 n g s8 st) 1 0 [] A5
def main5 (n cap : Nat) (g : Nat → Int) (s8 st : Int) : Out (SV × Hp) := execA P con5 5 [ann5 n cap g s8 st] 3 4 5 [slc0 n cap, .c (.iv .u8 s8), .c (.iv .u8 st)] ⟨hp0 n g, 1, fun _ => True⟩
end
end Go.Proofs.Ytjpnpaboahbncaa.Pb
