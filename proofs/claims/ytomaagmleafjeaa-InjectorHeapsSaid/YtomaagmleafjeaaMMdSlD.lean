/- Slots of the injector as a list: what is asked. -/
import Derived.Test.YtomaagmleafjeaaMMdRmD
import Derived.Test.YtomaagmleafjeaaMMd
set_option linter.unusedVariables false
set_option linter.unusedSimpArgs false
set_option linter.unusedVariables false
set_option maxRecDepth 100000
namespace Go.Proofs.Ytomaagmleafjeaa.Md
open Go Go.RowKit Sx Cn Dc Ck Vc
/-- How many. -/
def cntS (H z : Int) : Nat := (min z H).toNat
noncomputable section
def fSl : FuncId := 58
def fSm : FuncId := 57
def envZ (km : Nat) : Blk := .view 1 (fun _ => 1) ((List.replicate 22 (Col.cu)) ++ [.ck [.ptr km (.k 0) (.k 0) 0 6], .cu, .cu, .cu])
def memZ (k n : Nat) (m : Mm) : HL := [(k, .own 141 6 ([.slc (k + 1) (.k 0) (.k 0) 1 (.s n) (.s n), i6 m.lk, i6 m.lc, uw m.lo, uw m.ln, i6 m.ct].map some)), (k + 1, .row 58 n n [.ci .u64 fun _ e => m.g e])]
section
variable (c : Cf) (n : Nat) (m : Mm)
def psSl : PS := .leaf Nat 7 (fun s H => capOf (keyC s) H.h) (fun s H => [keyC s]) (fun cp => cntS c.H (m.g 2) ≤ cp) (fun cp => .c (slK 6 1 (cntS c.H (m.g 2)) cp)) (fun cp => memZ 4 n m ++ [(6, .row 58 cp (cntS c.H (m.g 2)) [.ci .u64 fun _ e => m.g (4 + e)])])
def laSl (to ti : Nat) (s : St) : Option (LA (Nat × Nat)) := some ⟨[(tkey to, false)], fun x => [.row 58 x.2 x.1 [.ci .u64 fun _ e => m.g (4 + e)]], [to, ti],
  fun x => [.c (.slc (tkey to s) (.k 0) (.k 0) 1 (.s x.1) (.s x.2)), .c (i6 x.1)],
  fun s => match tmI ti s, capOf (tkey to s) s.H.h with | some i, some c => some (i.toNat, c) | _, _ => none, fun x => x.1 ≤ cntS c.H (m.g 2) ∧ x.1 ≤ x.2, fun x => cntS c.H (m.g 2) - x.1⟩
def conSl : Con := conL (conN con0)
theorem conSl_ok : ConOK P conSl := conL_ok (conN_ok ConOK.nil)
def vSl : V := verF P conSl 8 12 fSl [] (.loop (Nat × Nat) [.nilTmp 5 58 1 [.ci .u64 fun _ e => m.g (4 + e)]] (laSl c m 5 6) .nil .nil) [argC c, .c (.ptr 3 (.k 0) (.k 0) 0 26)] ⟨hC c ++ ((3, envZ 4) :: memZ 4 n m), 6, fun _ => True⟩ ((psSl c n m).fin 6)
end
/-- Two lists of words compared. -/
def vSm (n n2 cap cap2 : Nat) (g g2 : Nat → Int) : V := verF P con0 6 8 fSm [] (.loop Nat [] (fun s => some ⟨[], fun _ => [], [5], fun v => [.c (i6 v)], fun s => (tmI 5 s).map Int.toNat, fun v => v ≤ n ∧ ∀ j, j < v → g j = g2 j, fun v => n - v⟩) .nil .nil) [.c (slK 0 1 n cap), .c (slK 1 1 n2 cap2)]
  ⟨[(0, .view 1 (fun _ => n) [.ci .u64 fun _ e => g e]), (1, .view 1 (fun _ => n2) [.ci .u64 fun _ e => g2 e])], 2, fun _ => True⟩
  (finV (X := Bool) 2 2 (fun s _ => match s with | .c c => (asB (.c c)).map (·.2) | _ => none) (fun _ _ => []) (fun b => b = true ↔ n = n2 ∧ ∀ j, j < n → g j = g2 j) (fun b => .c (.bv b)) (fun _ => []))
end
end Go.Proofs.Ytomaagmleafjeaa.Md
