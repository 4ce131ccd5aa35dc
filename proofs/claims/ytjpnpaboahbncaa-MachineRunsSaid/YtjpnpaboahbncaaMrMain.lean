/- 'MachineRuns': the last contract, and the function itself. -/
import Derived.Test.YtjpnpaboahbncaaMrCons
set_option linter.unusedVariables false
set_option linter.unusedSimpArgs false
set_option maxRecDepth 100000
namespace Go.Proofs.Ytjpnpaboahbncaa.Mr
open Go Go.RowKit Sx
noncomputable section
def post19 : Out (SV × Hp) := .leaf (.c (.kb true), ⟨[], 6, T1⟩)
def con19 : List SV → Hp → Out (SV × Hp) := fun args H => useT [] 0 [] [] post19 args H
def con2 : FuncId → Option (List SV → Hp → Out (SV × Hp)) := fun f => bif Nat.beq f 19 then some con19 else con1 f
def awake19 : Out (SV × Hp) := execF P con1 noAnn 3 6 19 [] ⟨[], 0, T1⟩
def main3 (a b c : Int) : Out (SV × Hp) := execF P con2 noAnn 3 6 3 [.c (.iv .i64 a), .c (.iv .i64 b), .c (.iv .u8 c)] ⟨[], 0, T1⟩
end
end Go.Proofs.Ytjpnpaboahbncaa.Mr
