/- The cells of tasks, by the reference: what is asked. -/
import Derived.Test.YtomaagmleafjeaaMMd
import Derived.Test.YtomaagmleafjeaaML
set_option linter.unusedVariables false
set_option linter.unusedSimpArgs false
set_option maxRecDepth 100000
namespace Go.Proofs.Ytomaagmleafjeaa.Md
open Go Go.RowKit Sx Cn Dc Ck Vc
noncomputable section
def fTk : FuncId := 120
def conL0 : Con := conL con0
theorem conL0_ok : ConOK P conL0 := conL_ok ConOK.nil
def vTk (c : Cf) (t k : Int) : V := verF P conL0 4 8 fTk [] .nil [argC c, iv t, iv k] ⟨hC c, 3, fun _ => True⟩ (finV (X := Int) 3 3 (fun s _ => numS s) (fun _ _ => []) (fun r => r = lT c + t * 5 + k) (fun r => .c (.iv .i64 r)) (fun _ => []))
end
end Go.Proofs.Ytomaagmleafjeaa.Md
