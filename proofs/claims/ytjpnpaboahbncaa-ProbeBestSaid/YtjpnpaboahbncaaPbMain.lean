/- ProbeChooses, ProbeBest: the functions themselves, what is said of their loops. -/
import Derived.Test.YtjpnpaboahbncaaPbCho
set_option linter.unusedVariables false
namespace Go.Proofs.Ytjpnpaboahbncaa.Pb
open Go Go.RowKit Sx Cn
noncomputable section
def awake24 : Out (SV × Hp) := execF P con4 noAnn 3 3 24 [] emp
def post24 : Out (SV × Hp) := .leaf (.c (.kb true), ⟨[], 3, fun _ => True⟩)
def con24 : List SV → Hp → Out (SV × Hp) := fun args H => useT [] 0 [] [] post24 args H
def con5 : Con := Con.add 24 con24 con4

/-! ProbeChooses: the list of remainders -/
structure X4 where
  i : Nat
  c : Nat
def m8 (g : Nat → Int) : Nat → Int := fun e => g e % 8
def J4 (n cap : Nat) (g : Nat → Int) (s1 st : Int) (x : X4) : St := ⟨tms 66 [(0, slc0 n cap), (1, iv s1), (2, iv st), (9, .c (.slc 1 (.k 0) (.k 0) 1 (.s x.i) (.s x.c))), (10, iv x.i)],
  ⟨[(0, ints .u64 n g), (1, .row 44 x.c x.i [.ci .u64 fun _ e => m8 g e])], 2, fun _ => True⟩⟩
def I4 (n : Nat) (g : Nat → Int) (x : X4) : Prop := n ≤ 100 ∧ U64 n g ∧ x.i ≤ n ∧ x.i ≤ x.c
def F4 (n : Nat) (g : Nat → Int) (s1 st : Int) (c : Nat) : St := ⟨tms 66 [(1, iv s1), (2, iv st), (9, .c (.slc 1 (.k 0) (.k 0) 1 (.s n) (.s c)))],
  ⟨[(1, .row 44 c n [.ci .u64 fun _ e => m8 g e])], 2, fun _ => True⟩⟩
def A4 (n : Nat) (g : Nat → Int) (s1 st : Int) : Out (Ex × St) := .any Nat (fun c => n ≤ c) fun c => .leaf (.exit 0, F4 n g s1 st c)
def round4 (n cap : Nat) (g : Nat → Int) (s1 st : Int) (x : X4) : Out (Ex × St) := roundT P con5 4 0 3 2 1 (patOf (J4 n cap g s1 st x) 66 [1, 2, 9]) (J4 n cap g s1 st x)
def ann4 (n cap : Nat) (g : Nat → Int) (s1 st : Int) : Ann := .ghost (nilTmpG 9 44 1 [.ci .u64 fun _ _ => 0]) (loopA (J4 n cap g s1 st) (I4 n g) 1 ⟨0, 0⟩ [9] (A4 n g s1 st))
def s1 (n : Nat) (self : Int) : Int := IntKind.i64.wrap (dr (IntKind.i64.wrap (self.tdiv 1)) (IntKind.i64.wrap (n + 2)) - 1)
def main4 (n cap : Nat) (g : Nat → Int) (self st : Int) (near : Bool) : Out (SV × Hp) := execA P con5 4 [ann4 n cap g (s1 n self) st] 3 4 4 [slc0 n cap, iv self, iv st, .c (.bv near)] ⟨hp0 n g, 1, fun _ => True⟩
end
end Go.Proofs.Ytjpnpaboahbncaa.Pb
