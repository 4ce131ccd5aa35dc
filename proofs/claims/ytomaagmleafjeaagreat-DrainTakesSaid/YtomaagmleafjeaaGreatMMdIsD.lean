/- A list of numbers compared with one of a family: what is asked. -/
import Derived.Test.YtomaagmleafjeaaGreatMMd
set_option linter.unusedVariables false
set_option linter.unusedSimpArgs false
set_option linter.unusedVariables false
set_option maxRecDepth 100000
namespace Go.Proofs.YtomaagmleafjeaaGreat.Md
open Go Go.RowKit Sx Cn Dc Ck Vc
noncomputable section
def fIs : FuncId := 20
def onIs (i n2 : Nat) (q : Nat) : Nat := if q = i then n2 else 0
def slI (k i n cap : Nat) : SC := .slc k (.s i) (.k 0) 1 (.s n) (.s cap)
def finIs (nx : Nat) (φ : Bool → Prop) : SV → Hp → V := finV (X := Bool) nx nx (fun s _ => match s with | .c c => (asB (.c c)).map (·.2) | _ => none) (fun _ _ => []) φ (fun b => .c (.bv b)) (fun _ => [])
def laIs (n : Nat) (I : Nat → Prop) (s : St) : Option (LA Nat) := some ⟨[], fun _ => [], [5], fun v => [.c (i6 v)], fun s => (tmI 5 s).map Int.toNat, I, fun v => n - v⟩
def vIs (n cap i n2 cap2 : Nat) (g : Nat → Int) (G : Nat → Nat → Int) (I : Nat → Prop) (φ : Bool → Prop) : V := verF P con0 6 8 fIs [] (.loop Nat [] (laIs n I) .nil .nil) [.c (slK 0 1 n cap), .c (slI 1 i n2 cap2)]
  ⟨[(0, .view 1 (fun _ => n) [.ci .i64 fun _ e => g e]), (1, .view (i + 1) (fun q => onIs i n2 q) [.ci .i64 fun q e => G q e])], 2, fun _ => True⟩ (finIs 2 φ)
def vIz (i n2 cap2 : Nat) (G : Nat → Nat → Int) (I : Nat → Prop) (φ : Bool → Prop) : V := verF P con0 6 8 fIs [] (.loop Nat [] (laIs 0 I) .nil .nil) [.c .nils, .c (slI 0 i n2 cap2)]
  ⟨[(0, .view (i + 1) (fun q => onIs i n2 q) [.ci .i64 fun q e => G q e])], 1, fun _ => True⟩ (finIs 1 φ)
end
end Go.Proofs.YtomaagmleafjeaaGreat.Md
