/- Machines that run alone: what a run is; an environment that is read. -/
import Derived.Test.YtomaagmleafjeaaMMdLo
import Derived.Test.YtomaagmleafjeaaMNwMem
import Derived.Test.YtomaagmleafjeaaMW
set_option linter.unusedVariables false
set_option linter.unusedSimpArgs false
set_option maxRecDepth 100000
namespace Go.Proofs.Ytomaagmleafjeaa.Md
open Go Go.RowKit Sx Cn Dc Ck Vc
/-- A result: code, value, number of steps; the memory. -/
structure Rs where
  c : Int
  v : Int
  k : Int
  m : Mm
/-- A run of at most some steps: of states that say how many steps were made, and the memory. -/
def aRun {X : Type} (kx : X → Nat) (mx : X → Mm) (step : Nat × X → (Nat × X) × Option (Int × Int)) : Nat → Nat × X → Rs
  | 0, x => ⟨-1, 0, kx x.2, mx x.2⟩
  | f + 1, x => match step x with
    | (x', none) => aRun kx mx step f x'
    | (x', some r) => ⟨r.1, r.2, kx x'.2, mx x'.2⟩
def sz (b t : Int) : Int := IntKind.i64.wrap (IntKind.u64.wrap (b - t))
def ringC (r c i : Int) : Int := if c < 1 then -1 else IntKind.i64.wrap (r + IntKind.i64.wrap (i.tmod (IntKind.u64.wrap c)))
def bitM (n : Int) : Int := if n < 0 ∨ n > 63 then 0 else IntKind.u64.wrap (1 * 2 ^ min (IntKind.u64.wrap n).toNat 64)
def hiB (x : Int) : Int := IntKind.i64.wrap ((Lib.bitLen x.toNat : Int) - 1)
noncomputable section
def fBit : FuncId := 244
def fCell : FuncId := 273
def vBit (n : Int) : V := verF P con0 3 4 fBit [] .nil [iv n] ⟨[], 0, fun _ => True⟩ (finI .u64 fun r => r = bitM n)
def vCell (a b c d i : Int) : V := verF P con0 3 4 fCell [] .nil [.a [i6 a, i6 b, i6 c, i6 d], .c (uw i)] ⟨[], 0, fun _ => True⟩ (finI .i64 fun r => r = ringC c d i)
/-- An environment of which the layout and the memory are read. -/
def envV (y : Ly) (km : Nat) : Blk := .view 1 (fun _ => 1) ([.cu, .cu, .cu, .cu, .cu, .cu, .cu, .cu, .cu, .cu, .cu] ++ y.l.map (fun c => .ck [c]) ++ [.ck [.ptr km (.k 0) (.k 0) 0 6], .cu, .cu, .cu])
def hAl (y : Ly) (len cap : NV) (m : Mm) : HL := [(0, envV y 1), (1, .own 141 6 ([.slc 2 (.k 0) (.k 0) 1 len cap, i6 m.lk, i6 m.lc, uw m.lo, uw m.ln, i6 m.ct].map some)), (2, .row 58 cap.v len.v [.ci .u64 fun _ e => m.g e])]
def argsAl (t : TypeId) (sz : Nat) (M : Int) : List SV := [.c (.ptr 0 (.k 0) (.k 0) 0 26), .c (.ifc t 3 (.k 0) (.k 0) 0 sz), iv M]
def rdRs (s : SV) (H : Hp) : Option Rs := match s with
  | .t [.c c, .c v, .c k] => match numC c, numC v, numC k, rdMm H.h 1 with
    | some c, some v, some k, some x => some ⟨c, v, k, x.m⟩
    | _, _, _, _ => none
  | _ => none
def svRs (r : Rs) : SV := .t [.c (i6 r.c), .c (i6 r.v), .c (i6 r.k)]
def hRs (len cap : NV) (r : Rs) : HL := [(1, .own 141 6 ([.slc 2 (.k 0) (.k 0) 1 len cap, i6 r.m.lk, i6 r.m.lc, uw r.m.lo, uw r.m.ln, i6 r.m.ct].map some)), (2, .row 58 cap.v len.v [.ci .u64 fun _ e => r.m.g e])]
def finAl (n : Nat) (len cap : NV) (φ : Rs → Prop) : SV → Hp → V := finV (X := Rs) n n rdRs (fun _ _ => []) φ svRs (hRs len cap)
/-- The memory's blocks. -/
def memBs (t : Nat) (s : St) : Option (Mm → List Blk) := match find (envM t s) s.H.h, find (envC t s) s.H.h with
  | some (.own tm sm (some (.slc kc a b z len cap) :: _)), some (.row t2 c2 n _) => some fun m => [.own tm sm ([.slc kc a b z len cap, i6 m.lk, i6 m.lc, uw m.lo, uw m.ln, i6 m.ct].map some), .row t2 c2 n [.ci .u64 fun _ e => m.g e]]
  | _, _ => none
/-- The name of the machine inside: in a cell of the machine in a temporary, or, if there is none, of a block that is left. -/
def findD (ts : List TypeId) : HL → Nat
  | [] => 0
  | (k, b) :: r => match b with
    | .fam _ _ _ _ [] => k
    | .view _ _ [] => k
    | .own t _ _ => match mem t ts with
      | true => k
      | false => findD ts r
    | _ => findD ts r
def insK (t f : Nat) (ts : List TypeId) (s : St) : Nat := match bCell (tmK t s) f s.H.h with
  | some (.ifc _ k _ _ _ _) => k
  | _ => findD ts s.H.h
def dumB : Blk := .view 0 (fun _ => 0) []
def cellI (k f : Nat) (h : HL) : Option Int := (bCell k f h).bind numC
end
end Go.Proofs.Ytomaagmleafjeaa.Md

/- Bits, rings: the conditions, printed by program. -/
set_option maxRecDepth 100000
namespace Go.Proofs.Ytomaagmleafjeaa.Md
open Go Go.RowKit Sx Cn Dc Ck Vc

theorem vBit_eq (n : Int) : vBit n =
  V.br (decide (n < Int.ofNat 0))
    (V.need (Int.ofNat 0 = bitM n)
    (nN [(1, .eqI 0 0)] V.ok))
    (V.br (decide (n > Int.ofNat 63))
    (V.need (Int.ofNat 0 = bitM n)
    (nN [(1, .eqI 0 0)] V.ok))
    (V.need (Int.ofNat 0 ≤ IntKind.u64.wrap n)
    (V.need (IntKind.u64.wrap (Int.ofNat 1 * Int.ofNat 2 ^ min (IntKind.u64.wrap n).toNat 64) = bitM n)
    (nN [(1, .pf (IntKind.u64.wrap (Int.ofNat 1 * Int.ofNat 2 ^ min (IntKind.u64.wrap n).toNat 64) = IntKind.u64.wrap (Int.ofNat 1 * Int.ofNat 2 ^ min (IntKind.u64.wrap n).toNat 64)) rfl)] V.ok)))) := by kernel_rfl

theorem vCell_eq (a b c d i : Int) : vCell a b c d i =
  V.br (decide (d < Int.ofNat 1))
    (V.need (Int.negSucc 0 = ringC c d i)
    (nN [(1, .pf (Int.negSucc 0 = Int.negSucc 0) rfl)] V.ok))
    (nN [(4, .lt2 0 1 0 1)]
    (V.need (IntKind.u64.wrap d ≠ Int.ofNat 0)
    (V.need (IntKind.i64.wrap (c + IntKind.i64.wrap (i.tmod (IntKind.u64.wrap d))) = ringC c d i)
    (nN [(1, .pf (IntKind.i64.wrap (c + IntKind.i64.wrap (i.tmod (IntKind.u64.wrap d))) = IntKind.i64.wrap (c + IntKind.i64.wrap (i.tmod (IntKind.u64.wrap d)))) rfl)] V.ok)))) := by kernel_rfl


end Go.Proofs.Ytomaagmleafjeaa.Md
