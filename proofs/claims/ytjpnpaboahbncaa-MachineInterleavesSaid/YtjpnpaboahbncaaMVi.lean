/- Clone of rows: what is asked, what is answered. -/
import Derived.Test.YtjpnpaboahbncaaMVh
set_option linter.unusedVariables false
set_option linter.unusedSimpArgs false
set_option linter.unusedVariables false
set_option maxRecDepth 100000
namespace Go.Proofs.Ytjpnpaboahbncaa.Vc
open Go Go.RowKit Sx Cn Dc Ck
noncomputable section
def R3.cols (r : R3) : List Col := [.ci .i64 fun _ e => r.o r.i e, .ci .i64 fun _ e => r.a r.i e, .ci .i64 fun _ e => r.b r.i e]
def keyC (s : SV) : Nat := match s with
  | .c x => Sx.keyOf x
  | _ => 0
def verCl3 (f : FuncId) (t : TypeId) (r : R3) : V := verF P con0 3 3 f [(1000000, .nilTmpO 2 t 3 r.cols)] .nil [r.arg 0] ⟨[(0, r.blk)], 1, fun _ => True⟩
  (finV 1 2 (fun s H => capOf (keyC s) H.h) (fun s H => [keyC s]) (fun c => r.n ≤ c) (fun c => .c (slK 1 3 r.n c)) (fun c => [(1, .row t c r.n r.cols)]))
def verClI (r : R3) : V := verCl3 118 94 r
def verClU (r : R3) : V := verCl3 119 96 r
def rowPs (k : Nat) (c : Cf) (cp : Nat) : Blk := .row 92 cp c.nP [.cs k 3 (fun _ e => e) (fun _ e => c.lenP e) (fun _ e => c.FC e)]
def verClP (c : Cf) : V := verF P con0 3 3 117 [(1000000, .nilTmpO 2 92 1 [.cs 1 3 (fun _ e => e) (fun _ e => c.lenP e) (fun _ e => c.FC e)])] .nil [.c (slK 0 1 c.nP c.rc)] ⟨hP 0 c, 2, fun _ => True⟩
  (finV 2 3 (fun s H => capOf (keyC s) H.h) (fun s H => [keyC s]) (fun cp => c.nP ≤ cp) (fun cp => .c (slK 2 1 c.nP cp)) (fun cp => [(2, rowPs 1 c cp)]))
def conCl3 (t : TypeId) : List SV → Hp → Out (SV × Hp) := fun args H => match args with
  | [.c (.slc k i _ _ n cap)] => fN k fun k => match row3 H.h k i n cap with
    | some r => useP [k] 1 [r.arg 0] [(0, r.blk)] (.need (r.n ≤ 1000000) (.any Nat (fun c => r.n ≤ c) fun c => .leaf (.c (slK 1 3 r.n c), ⟨[(1, .row t c r.n r.cols)], 2, fun _ => True⟩))) args H
    | none => .bad 430
  | _ => .bad 431
def conClP : List SV → Hp → Out (SV × Hp) := fun args H => match args with
  | [.c (.slc k _ _ _ n cap)] => fN k fun k => match progOf H.h k n cap with
    | some (kF, c) => fN kF fun kF => useP [k, kF] 2 [.c (slK 0 1 c.nP c.rc)] (hP 0 c) (.need (c.nP ≤ 1000000) (.any Nat (fun cp => c.nP ≤ cp) fun cp => .leaf (.c (slK 2 1 c.nP cp), ⟨[(2, rowPs 1 c cp)], 3, fun _ => True⟩))) args H
    | none => .bad 430
  | _ => .bad 431
end
end Go.Proofs.Ytjpnpaboahbncaa.Vc
