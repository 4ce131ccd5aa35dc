/- TableNumbers: awake and the law: what is asked. -/
import Derived.Test.YtdnagdckpkflhaaMNw
import Derived.Test.YtdnagdckpkflhaaMNwMem
set_option linter.unusedVariables false
set_option linter.unusedSimpArgs false
set_option linter.unusedVariables false
set_option maxRecDepth 100000
namespace Go.Proofs.Ytdnagdckpkflhaa.Vc
open Go Go.RowKit Sx Cn Dc Ck
/-- Of the loop: how many numbers were asked for; the last access, the number of accesses. -/
structure XT where
  i : Nat
  lk : Int
  lc : Int
  lo : Int
  ln : Int
  ct : Int
noncomputable section
def conWM : Con := conMem conW
theorem conWM_ok : ConOK P conWM := conMem_ok conW_ok
def verAw18 : V := verF P conWM 10 12 54 [] .nil [] ⟨[], 0, fun _ => True⟩ (psYes.fin 0)
def con18 : Con := Con.add 54 conYes conWM
/-- A cell of a block, also of one that may be read only. -/
def bCell (k f : Nat) (h : HL) : Option SC := match find k h with
  | some (.own _ _ cs) => (match (cs[f]? : Option (Option SC)) with
    | some (some c) => some c
    | _ => none)
  | some (.view _ _ cols) => (match cols[f]? with
    | some (.ck [c]) => some c
    | _ => none)
  | _ => none
def scK : Option SC → Nat
  | some (.ptr k _ _ _ _) => k
  | some (.slc k _ _ _ _ _) => k
  | _ => 0
/-- The keys of an environment's memory and cells; the environment is in a temporary. -/
def tmK (t : Nat) (s : St) : Nat := match s.tmps[t]? with
  | some (some (.c c)) => scK (some c)
  | _ => 0
def envM (t : Nat) (s : St) : Nat := scK (bCell (tmK t s) 22 s.H.h)
def envC (t : Nat) (s : St) : Nat := scK (bCell (envM t s) 0 s.H.h)
def tmI (t : Nat) (s : St) : Option Int := match s.tmps[t]? with
  | some (some (.c c)) => numC c
  | _ => none
def rdT (s : St) : Option XT := match tmI 8 s with
  | some i => match find (envM 6 s) s.H.h with
    | some (.own _ _ [_, some lk, some lc, some lo, some ln, some ct]) => match numC lk, numC lc, numC lo, numC ln, numC ct with
      | some xk, some xc, some xo, some xn, some xt => some ⟨i.toNat, xk, xc, xo, xn, xt⟩
      | _, _, _, _, _ => none
    | _ => none
  | none => none
def tabLA (s : St) : Option (LA XT) := match find (envM 6 s) s.H.h, find (envC 6 s) s.H.h with
  | some (.own t sz (some (.slc kc a b z len cap) :: _)), some (.row t2 c2 n _) => some ⟨[(envM 6, true), (envC 6, true)],
      fun x => [.own t sz ([.slc kc a b z len cap, i6 x.lk, i6 x.lc, uw x.lo, uw x.ln, i6 x.ct].map some), .row t2 c2 n [.ov (.k 0) (.k 0) (uw x.i) (.cc (.ki .u64 0))]],
      [8], fun x => [.c (i6 x.i)], rdT, fun x => x.i ≤ 1000, fun x => 1000 - x.i⟩
  | _, _ => none
def verTab (a b : Int) : V := verF P con18 10 12 10 [] (.loop XT [] tabLA .nil .nil) [.c (.iv .u8 a), .c (.iv .u8 b)] ⟨[], 0, fun _ => True⟩ yesV
end
end Go.Proofs.Ytdnagdckpkflhaa.Vc
