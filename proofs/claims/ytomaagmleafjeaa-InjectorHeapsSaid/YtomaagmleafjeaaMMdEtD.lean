/- Entries of a worker alone, by the reference: what is asked. -/
import Derived.Test.YtomaagmleafjeaaMMdAl
set_option linter.unusedVariables false
set_option linter.unusedSimpArgs false
set_option linter.unusedVariables false
set_option maxRecDepth 100000
namespace Go.Proofs.Ytomaagmleafjeaa.Md
open Go Go.RowKit Sx Cn Dc Ck Vc
noncomputable section
def fClW : FuncId := 113
section
variable (c : Cf) (g : Nat → Int) (l : Int)
end
def vClW (n cap : Nat) (g : Nat → Int) : V := verF P con0 3 3 fClW [(1000000, .nilTmpO 2 58 1 [.ci .u64 fun _ e => g e])] .nil [.c (slK 0 1 n cap)] ⟨[(0, .view 1 (fun _ => n) [.ci .u64 fun _ e => g e])], 1, fun _ => True⟩
  (finV 1 2 (fun s H => capOf (keyC s) H.h) (fun s H => [keyC s]) (fun c => n ≤ c) (fun c => .c (slK 1 1 n c)) (fun c => [(1, .row 58 c n [.ci .u64 fun _ e => g e])]))
end
end Go.Proofs.Ytomaagmleafjeaa.Md
