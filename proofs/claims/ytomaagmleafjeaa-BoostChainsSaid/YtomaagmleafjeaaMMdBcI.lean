/- Walk alone over a chain of tasks: what holds at each step. -/
import Derived.Test.YtomaagmleafjeaaMMdBcD
set_option linter.unusedVariables false
set_option linter.unusedSimpArgs false
set_option linter.unusedVariables false
set_option maxRecDepth 100000
namespace Go.Proofs.Ytomaagmleafjeaa.Md
open Go Go.RowKit Sx Cn Dc Ck Vc
/-- Cell k of task u; cell k of the deque of level v. -/
def cb (u k : Nat) : Nat := 26 + 5 * u + k
def db (v : Int) (k : Nat) : Nat := (8 + 6 * v + k).toNat
/-- How many of the first tasks are raised. -/
def rais (lv : Int) (bf : Nat → Int) : Nat → Nat
  | 0 => 0
  | u + 1 => rais lv bf u + (if bf u < lv then 1 else 0)
/-- The memory and the events when the first T tasks of n are raised. -/
structure BcM (n : Nat) (lv : Int) (bf : Nat → Int) (rd : Bool) (T : Nat) (m : Mm) (l : El) (nc : Nat) : Prop where
  le : T ≤ n
  up : ∀ u, u < T → m.g (cb u 1) = max lv (bf u)
  dn : ∀ u, T ≤ u → u < 8 → m.g (cb u 1) = bf u
  st : ∀ u, u < n → (m.g (cb u 0) = 1 ↔ u + 1 = n ∧ rd = true)
  wt : ∀ u, u < n → m.g (cb u 3) = if u + 1 < n then ((u + 2 : Nat) : Int) else 0
  ev : l.n = rais lv bf T
  nc : l.n ≤ nc
  ok : ∀ e, 0 ≤ m.g e ∧ m.g e ≤ 18446744073709551615
/-- The deques: empty; or the last task in that of its level. -/
def dqE (m : Mm) : Prop := ∀ e, 8 ≤ e → e < 26 → m.g e = 0
def dqP (lv : Int) (t : Int) (m : Mm) : Prop := m.g (db lv 0) = 0 ∧ m.g (db lv 1) = 1 ∧ m.g (db lv 2) = t ∧ ∀ v : Int, 0 ≤ v → v < 3 → v ≠ lv → m.g (db v 0) = 0 ∧ m.g (db v 1) = 0
def IBc (n : Nat) (lv : Int) (bf : Nat → Int) (rd : Bool) (x : Nat × XBc) : Prop := ∃ t : Nat, t < n ∧ x.2.t = t ∧ match x.1 with
  | 0 => BcM n lv bf rd t x.2.m x.2.l x.2.nc ∧ dqE x.2.m ∧ x.2.k ≤ 12 * t
  | 1 => BcM n lv bf rd t x.2.m x.2.l x.2.nc ∧ dqE x.2.m ∧ x.2.k ≤ 12 * t + 1 ∧ x.2.rl = 2 ∧ x.2.q = bf t ∧ bf t < lv
  | 2 => BcM n lv bf rd (t + 1) x.2.m x.2.l x.2.nc ∧ dqE x.2.m ∧ x.2.k ≤ 12 * t + 2 ∧ bf t < lv
  | 3 => BcM n lv bf rd (t + 1) x.2.m x.2.l x.2.nc ∧ dqE x.2.m ∧ x.2.k ≤ 12 * t + 3 ∧ bf t < lv ∧ t + 1 = n ∧ rd = true
  | 4 => BcM n lv bf rd (t + 1) x.2.m x.2.l x.2.nc ∧ x.2.k ≤ 12 * t + 2 + x.2.ln.toNat ∧ bf t < lv ∧ t + 1 = n ∧ rd = true ∧ (2 ≤ x.2.ln ∧ x.2.ln ≤ 4) ∧ x.2.b = 0 ∧
      (x.2.qt = 8 + 6 * lv ∧ x.2.qb = 8 + 6 * lv + 1 ∧ x.2.qr = 8 + 6 * lv + 2 ∧ x.2.qc = 4) ∧ (∀ v : Int, 0 ≤ v → v < 3 → x.2.m.g (db v 0) = 0 ∧ x.2.m.g (db v 1) = 0) ∧ (x.2.ln = 4 → x.2.m.g (db lv 2) = t)
  | 5 => BcM n lv bf rd (t + 1) x.2.m x.2.l x.2.nc ∧ x.2.k ≤ 12 * t + 7 ∧ bf t < lv ∧ t + 1 = n ∧ rd = true ∧ dqP lv t x.2.m
  | 6 => BcM n lv bf rd (t + 1) x.2.m x.2.l x.2.nc ∧ x.2.k ≤ 12 * t + 8 ∧ if t + 1 = n ∧ rd = true ∧ bf t < lv then dqP lv t x.2.m else dqE x.2.m
  | _ => False
/-- What Walk leaves. -/
def φBc (n : Nat) (lv : Int) (bf : Nat → Int) (rd : Bool) (r : Re × Nat) : Prop := r.1.c = 0 ∧ BcM n lv bf rd n r.1.m r.1.l r.2 ∧ if rd = true ∧ bf (n - 1) < lv then dqP lv ((n - 1 : Nat) : Int) r.1.m else dqE r.1.m
end Go.Proofs.Ytomaagmleafjeaa.Md
