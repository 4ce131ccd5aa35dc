/- Bits by the reference: what is asked. -/
import Derived.Test.YtbidbhfjnfgblaaGreatMMdAl
set_option linter.unusedVariables false
set_option linter.unusedSimpArgs false
set_option maxRecDepth 100000
namespace Go.Proofs.YtbidbhfjnfgblaaGreat.Md
open Go Go.RowKit Sx Cn Dc Ck Vc
structure XPw where
  j : Nat
  p : Int
noncomputable section
def fPow : FuncId := 109
def laPw (i : Nat) (s : St) : Option (LA XPw) := some ⟨[], fun _ => [], [0, 3], fun x => [.c (i6 x.j), .c (uw x.p)], fun s => match tmI 0 s, tmI 3 s with
    | some j, some p => some ⟨j.toNat, p⟩
    | _, _ => none, fun x => x.j ≤ i ∧ x.p = 2 ^ (i - x.j), fun x => x.j⟩
def vPow (i : Nat) : V := verF P con0 3 4 fPow [] (.loop XPw [] (laPw i) .nil .nil) [iv i] ⟨[], 0, fun _ => True⟩ (finI .u64 fun r => r = 2 ^ i)
end
end Go.Proofs.YtbidbhfjnfgblaaGreat.Md
