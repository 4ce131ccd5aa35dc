/- machine.Interleave on counters, lists of numbers compared: what is asked. -/
import Derived.Test.YtjpnpaboahbncaaMVm
set_option linter.unusedVariables false
set_option linter.unusedSimpArgs false
set_option linter.unusedVariables false
set_option linter.unusedSimpArgs false
set_option maxRecDepth 100000
namespace Go.Proofs.Ytjpnpaboahbncaa.Vc
open Go Go.RowKit Sx Cn Dc Ck
/-! ### Numbers compared -/
structure R1 where
  n : Nat
  cap : Nat
  f : Nat → Int
def R1.eq (r s : R1) : Prop := r.n = s.n ∧ ∀ e, e < r.n → r.f e = s.f e
noncomputable section
open Classical in
def R1.eqB (r s : R1) : Bool := decide (r.eq s)
def R1.arg (r : R1) (k : Nat) : SV := .c (slK k 1 r.n r.cap)
def R1.blk (r : R1) : Blk := ints .i64 r.n r.f
def eq1I (r s : R1) (x : Int) : Prop := 0 ≤ x ∧ x ≤ r.n ∧ ∀ e : Nat, (e : Int) < x → r.f e = s.f e
/-! ### Steps of several counters -/
/-- How many there are, what is left of each; the picks. -/
structure MI where
  n : Nat
  cx : Nat
  L : Nat → Int
  pn : Nat
  pc : Nat
  p : Nat → Int
def drI (d : Int) (n : Nat) : Int := if d.tmod n < 0 then d.tmod n + n else d.tmod n
/-- The steps that machine m made behind i picks. -/
def MI.W (y : MI) : Nat → Nat → Int
  | 0, _ => 0
  | i + 1, m => if (m : Int) = drI (y.p i) y.n ∧ y.W i m < max 1 (y.L m) then y.W i m + 1 else y.W i m
def MI.live (y : MI) (m : Nat) : Nat := if m < y.n then 1 else 0
def MI.env : Blk := .own 37 26 (List.replicate 22 none ++ [some (.ptr 1 (.k 0) (.k 0) 0 6), none, none, none])
def MI.mem (y : MI) (c : Int) : Blk := .own 110 6 [some (slK 2 1 y.n y.n), none, none, none, none, some (.iv .i64 c)]
def MI.cells (y : MI) (i : Nat) : Blk := .row 44 y.n y.n [.ci .u64 fun _ e => min (y.W i e) (y.L e)]
def MI.xs (y : MI) : Blk := .row 105 y.cx y.n [.cf 39 4 (fun _ e => e) 0 2]
def MI.fam (y : MI) (i : Nat) : Blk := .fam true 41 y.live y.live [.ci .i64 fun m _ => m, .ci .i64 fun m _ => y.L m - min (y.W i m) (y.L m)]
def MI.counts (y : MI) (i : Nat) : Blk := .row 3 y.n y.n [.ci .i64 fun _ e => y.W i e]
def MI.h0 (y : MI) (c : Int) : HL := [(0, MI.env), (1, y.mem c), (2, .row 44 y.n y.n [.ci .u64 fun _ e => 0]), (3, y.xs), (4, .fam true 41 y.live y.live [.ci .i64 fun m _ => m, .ci .i64 fun m _ => y.L m]), (5, ints .i64 y.pn y.p)]
def MI.args (y : MI) : List SV := [.c (.ptr 0 (.k 0) (.k 0) 0 26), .c (slK 3 1 y.n y.cx), .c (slK 5 1 y.pn y.pc)]
def MI.out (y : MI) (c : Int) : HL := [(0, MI.env), (1, y.mem c), (2, y.cells y.pn), (3, y.xs), (4, y.fam y.pn), (6, y.counts y.pn)]
def MI.pre (y : MI) : Prop := y.n ≤ 20 ∧ y.pn ≤ 400 ∧ ∀ e, e < y.n → 0 ≤ y.L e ∧ y.L e ≤ 8
end
end Go.Proofs.Ytjpnpaboahbncaa.Vc


/- Numbers compared, counters interleaved: the contracts. -/
set_option linter.unusedVariables false
set_option linter.unusedSimpArgs false
set_option maxRecDepth 100000
namespace Go.Proofs.Ytjpnpaboahbncaa.Vc
open Go Go.RowKit Sx Cn Dc Ck
section
variable {r s : R1}
open Classical in
theorem n1_f (h : ¬ r.eq s) : false = r.eqB s := by unfold R1.eqB; exact (decide_eq_false h).symm
open Classical in
theorem n1_t (h : r.eq s) : true = r.eqB s := by unfold R1.eqB; exact (decide_eq_true h).symm
theorem n1_len (h : ¬ (r.n : Int) = s.n) : false = r.eqB s := n1_f fun g => h (by rw [g.1])
theorem n1_at {x : Int} (hx : eq1I r s x) (hlt : x < r.n) (h : ¬ r.f x.toNat = s.f x.toNat) : false = r.eqB s :=
  n1_f fun g => h (g.2 x.toNat (by have := hx.1; omega))
theorem n1_end {x : Int} (hn : (r.n : Int) = s.n) (hx : eq1I r s x) (h : ¬ x < r.n) : true = r.eqB s := n1_t ⟨by omega, fun e he => hx.2.2 e (by omega)⟩
theorem n1_next {x : Int} (hr : r.n ≤ 1000000) (hx : eq1I r s x) (hlt : x < r.n) (h : r.f x.toNat = s.f x.toNat) (e : Nat) (he : (e : Int) < IntKind.i64.wrap (x + 1)) : r.f e = s.f e := by
  have := hx.1
  rw [w64 (by omega)] at he
  by_cases g : (e : Int) < x
  · exact hx.2.2 e g
  · obtain rfl : e = x.toNat := by omega
    exact h
theorem n1_pos {x : Int} (h : eq1I r s x) : 0 ≤ x := h.1
end
/-! ### Interleave -/
section
variable (y : MI)
theorem drI_neg {d : Int} {n : Nat} (h : d.tmod n < 0) : drI d n = d.tmod n + n := if_pos h
theorem drI_pos {d : Int} {n : Nat} (h : ¬ d.tmod n < 0) : drI d n = d.tmod n := if_neg h
end
theorem tmod_bd' (a : Int) {b : Int} (h : 0 < b) : -b < a.tmod b ∧ a.tmod b < b := by
  refine ⟨?_, Int.tmod_lt_of_pos a h⟩
  have := Int.tmod_lt_of_pos (-a) h
  rw [Int.neg_tmod] at this
  omega
theorem dr_neg {d : Int} {n : Nat} (hn : ¬ (n : Int) = 0) (hm : n ≤ 20) (h : d.tmod n < 0) : ∃ k : Nat, k < n ∧ (k : Int) = drI d n ∧ IntKind.i64.wrap (d.tmod n + n) = k := by
  have := tmod_bd' d (b := n) (by omega)
  have e : IntKind.i64.wrap (d.tmod n + n) = d.tmod n + n := w64 (by omega)
  refine ⟨(d.tmod n + n).toNat, by omega, ?_, by omega⟩
  rw [drI_neg h]; omega
theorem dr_pos {d : Int} {n : Nat} (hn : ¬ (n : Int) = 0) (h : ¬ d.tmod n < 0) : ∃ k : Nat, k < n ∧ (k : Int) = drI d n ∧ d.tmod n = k := by
  have := tmod_bd' d (b := n) (by omega)
  refine ⟨(d.tmod n).toNat, by omega, ?_, by omega⟩
  rw [drI_pos h]; omega
end Go.Proofs.Ytjpnpaboahbncaa.Vc

