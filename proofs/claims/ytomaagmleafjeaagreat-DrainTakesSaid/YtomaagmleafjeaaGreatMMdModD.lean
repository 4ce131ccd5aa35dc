/- Remainders by one, classes: what is asked. -/
import Derived.Test.YtomaagmleafjeaaGreatMMd
set_option linter.unusedVariables false
set_option linter.unusedSimpArgs false
set_option linter.unusedVariables false
set_option maxRecDepth 100000
namespace Go.Proofs.YtomaagmleafjeaaGreat.Md
open Go Go.RowKit Sx Cn Dc Ck Vc
noncomputable section
def fMod : FuncId := 123
def fCls : FuncId := 124
def vMod (a : Int) : V := verF P con0 3 4 fMod [] .nil [iv a, .c (.ki .i64 1)] ⟨[], 0, fun _ => True⟩ (finI .i64 fun r => r = 0)
def vCls (a b c : Int) : V := verF P con0 3 4 fCls [] .nil [iv a, iv b, iv c] ⟨[], 0, fun _ => True⟩ (finI .i64 fun r => True)
end
end Go.Proofs.YtomaagmleafjeaaGreat.Md
