/- Entries of a worker alone, by the reference: what is asked. -/
import Derived.Test.YtomaagmleafjeaaMMdAl
set_option linter.unusedVariables false
set_option linter.unusedSimpArgs false
set_option linter.unusedVariables false
set_option maxRecDepth 100000
namespace Go.Proofs.Ytomaagmleafjeaa.Md
open Go Go.RowKit Sx Cn Dc Ck Vc
/-- The first cell of the deque of a level; how many entries it has; the i-th of them. -/
def entQ (c : Cf) (l : Int) : Int := lQ c + l * (2 + c.D)
def entN (c : Cf) (g : Nat → Int) (l : Int) : Int := sz (g (entQ c l + 1).toNat) (g (entQ c l).toNat)
def entE (c : Cf) (g : Nat → Int) (l : Int) (i : Nat) : Int := IntKind.i64.wrap (g (ringC (entQ c l + 2) c.D (IntKind.u64.wrap (g (entQ c l).toNat + i))).toNat)
noncomputable section
def fEnt : FuncId := 121
def fClW : FuncId := 113
def hEnt (c : Cf) (n : Nat) (g : Nat → Int) : HL := hC c ++ [(3, .view 1 (fun _ => n) [.ci .u64 fun _ e => g e])]
def selS : SV → Hp → Bool := fun s _ => match s with
  | .c .nils => false
  | _ => true
section
variable (c : Cf) (g : Nat → Int) (l : Int)
def psEnt : PS := .br (decide (1 ≤ entN c g l ∧ entN c g l ≤ c.D)) selS
  (.leaf Nat 5 (fun s H => capOf (keyC s) H.h) (fun s H => [keyC s]) (fun cp => (entN c g l).toNat ≤ cp) (fun cp => .c (slK 4 1 (entN c g l).toNat cp)) (fun cp => [(4, .row 3 cp (entN c g l).toNat [.ci .i64 fun _ e => entE c g l e])]))
  (.one 4 (fun _ _ => []) (.c .nils) [])
def laEnt (to ti : Nat) (s : St) : Option (LA (Nat × Nat)) := some ⟨[(tkey to, false)], fun x => [.row 3 x.2 x.1 [.ci .i64 fun _ e => entE c g l e]], [to, ti],
  fun x => [.c (.slc (tkey to s) (.k 0) (.k 0) 1 (.s x.1) (.s x.2)), .c (i6 x.1)],
  fun s => match tmI ti s, capOf (tkey to s) s.H.h with | some i, some c => some (i.toNat, c) | _, _ => none, fun x => (x.1 : Int) ≤ entN c g l ∧ x.1 ≤ x.2, fun x => (entN c g l).toNat - x.1⟩
def conEt0 : Con := Con.add 129 conErr con0
theorem conEt0_ok : ConOK P conEt0 := .add conErr44 ConOK.nil
def vEnt (n cap : Nat) : V := verF P conEt0 8 12 fEnt [] (.loop (Nat × Nat) [.nilTmp 13 3 1 [.ci .i64 fun _ e => entE c g l e]] (laEnt c g l 13 14) .nil .nil) [argC c, .c (slK 3 1 n cap), .c (.ki .i64 0), iv l] ⟨hEnt c n g, 4, fun _ => True⟩ ((psEnt c g l).fin 4)
end
def vClW (n cap : Nat) (g : Nat → Int) : V := verF P con0 3 3 fClW [(1000000, .nilTmpO 2 58 1 [.ci .u64 fun _ e => g e])] .nil [.c (slK 0 1 n cap)] ⟨[(0, .view 1 (fun _ => n) [.ci .u64 fun _ e => g e])], 1, fun _ => True⟩
  (finV 1 2 (fun s H => capOf (keyC s) H.h) (fun s H => [keyC s]) (fun c => n ≤ c) (fun c => .c (slK 1 1 n c)) (fun c => [(1, .row 58 c n [.ci .u64 fun _ e => g e])]))
end
end Go.Proofs.Ytomaagmleafjeaa.Md
