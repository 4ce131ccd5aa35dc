/- Probe alone: what is asked. -/
import Derived.Test.YtimklokgjmdobaaMMdPs
set_option linter.unusedVariables false
set_option linter.unusedSimpArgs false
set_option maxRecDepth 100000
namespace Go.Proofs.Ytimklokgjmdobaa.Md
open Go Go.RowKit Sx Cn Dc Ck Vc
noncomputable section
structure XPf where
  k : Int
  mm : Mm
  pr : Pr
  A : A16
def fAlP : FuncId := 11
def p0 (w : Int) : Pr := ⟨false, 0, 0, w, false, 0, 0⟩
def A0 : A16 := ⟨0, 0, 0, 0, 0, 0, 0, 0, 0, 0, 0, 0, 0, 0, 0, 0⟩
def laPf (I : XPf → Prop) (s : St) : Option (LA XPf) := match memBs 0 s with
  | some mb => some ⟨[(tmK 1, true), (envM 0, true), (envC 0, true)], fun x => prB x.pr x.A :: mb x.mm, [8], fun x => [iv x.k],
      fun s => match tmI 8 s, rdMm s.H.h (envM 0 s), rdPr (tmK 1 s) s.H.h with | some k, some z, some (p, B) => some ⟨k, z.m, p, B⟩ | _, _, _ => none, I, fun x => (40 - x.k).toNat⟩
  | none => none
def cnPf : Con := Con.add fPs cPs con0
def svPf (c v k : Int) : SV := .t [.c (i6 c), .c (i6 v), .c (i6 k)]
structure Rp where
  c : Int
  v : Int
  k : Int
  m : Mm
def rdPf (s : SV) (H : Hp) : Option Rp := match s with
  | .t [.c c, .c v, .c k] => match numC c, numC v, numC k, rdMm H.h 1 with
    | some c, some v, some k, some x => some ⟨c, v, k, x.m⟩
    | _, _, _, _ => none
  | _ => none
def vPf (y : Ly) (n cap : Nat) (w d : Int) (m : Mm) (I : XPf → Prop) (φ : Rp → Prop) : V := verF P cnPf 8 10 fAlP [] (.loop XPf [] (laPf I) .nil .nil) (argsAl 75 23 40) ⟨hPs y (.s n) (.s cap) d (p0 w) A0 m, 5, fun _ => True⟩
  (finV (X := Rp) 5 5 rdPf (fun _ _ => []) φ (fun r => svPf r.c r.v r.k) (fun r => memP (.s n) (.s cap) r.m))
end
end Go.Proofs.Ytimklokgjmdobaa.Md
