/- Sweep alone, in the configuration of chapter 20: what is asked. -/
import Derived.Test.YtomaagmleafjeaaMMdRmD
import Derived.Test.YtomaagmleafjeaaMMd
import Derived.Test.YtomaagmleafjeaaMMdWtD
import Derived.Test.YtomaagmleafjeaaMMdAlB
set_option linter.unusedVariables false
set_option linter.unusedSimpArgs false
set_option linter.unusedVariables false
set_option maxRecDepth 100000
namespace Go.Proofs.Ytomaagmleafjeaa.Md
open Go Go.RowKit Sx Cn Dc Ck Vc
noncomputable section
def tSw : TypeId := 172
def mSw0 (t : Int) : Blk := .own 174 8 ([.kb false, .ki .i64 0, .ki .i64 0, .ki .i64 0, i6 t, .ki .i64 1, .ki .u64 0, .nilI].map some)
def lay4 : List SC := [.ki .i64 1, .ki .i64 4, .ki .i64 1, .ki .i64 4, .ki .i64 4, .ki .i64 1, .ki .i64 5, .ki .i64 6, .ki .i64 7, .ki .i64 8, .ki .i64 32]
def envS (age : Int) (ke : Nat) (ne nc : Nat) : Blk := .own 47 26 ([none, some (.ki .i64 4), none, some (.ki .i64 4), none, none, none, some (i6 age), none, none, none] ++ lay4.map some ++ [some (.ptr 1 (.k 0) (.k 0) 0 6), some (.ptr 5 (.k 0) (.k 0) 0 2), none, some (.slc ke (.k 0) (.k 0) 5 (.s ne) (.s nc))])
def memS (m : Mm) : HL := [(1, .own 141 6 ([.slc 2 (.k 0) (.k 0) 1 (.k 52) (.k 52), i6 m.lk, i6 m.lc, uw m.lo, uw m.ln, i6 m.ct].map some)), (2, .row 58 52 52 [.ci .u64 fun _ e => m.g e])]
def hSw (age now t : Int) (m : Mm) (l : El) (nc : Nat) : HL := (0, envS age 4 l.n nc) :: (memS m ++ [(3, mSw0 t), (4, .row 80 nc l.n l.v.cols), (5, .own 176 2 [some (i6 now), none])])
def cl (t k : Int) : Nat := (32 + t * 5 + k).toNat
def dq (l k : Int) : Nat := (8 + l * 6 + k).toNat
/-- What holds behind a Sweep. -/
def φSw (age now t : Int) (m : Mm) (r : Re) : Prop :=
  (¬ (0 < age ∧ age ≤ now - m.g (cl t 4) ∧ m.g (cl t 1) < 3) → r.l.n = 0 ∧ r.m.g (cl t 1) = m.g (cl t 1) ∧ r.m.g (cl t 4) = m.g (cl t 4)) ∧
  (0 < age ∧ age ≤ now - m.g (cl t 4) ∧ m.g (cl t 1) < 3 → r.l.n = 1 ∧ r.m.g (cl t 1) = m.g (cl t 1) + 1 ∧ r.m.g (cl t 4) = now ∧ r.m.g (dq (m.g (cl t 1) + 1) 0) = 0 ∧ r.m.g (dq (m.g (cl t 1) + 1) 1) = 1 ∧ r.m.g (dq (m.g (cl t 1) + 1) 2) = t) ∧
  ∀ e, 0 ≤ r.m.g e ∧ r.m.g e ≤ 18446744073709551615
def hSe (age now : Int) (r : Re) (nc : Nat) : HL := (0, envS age 6 r.l.n nc) :: (memS r.m ++ [(5, .own 176 2 [some (i6 now), none]), (6, .row 80 nc r.l.n r.l.v.cols)])
def finSw (age now t : Int) (m : Mm) : SV → Hp → V := finV (X := Re × Nat) 6 7 (fun s H => (rdRe s H).map fun x => (x.1, x.2.1)) (fun _ H => keyEv H) (fun r => φSw age now t m r.1 ∧ r.1.l.n ≤ r.2) (fun r => svRe r.1) (fun r => hSe age now r.1 r.2)
def verSw (age now t : Int) (m : Mm) (l : El) (nc : Nat) : V := verF P conNL 16 12 35 [(0, .ren (envE 0))] (.unroll [] .nil) (argsAl tSw 8 30) ⟨hSw age now t m l nc, 6, fun _ => True⟩ (finSw age now t m)
def preSw (age now t : Int) (m : Mm) (n : Nat) : Prop := ((0 ≤ t ∧ t ≤ 3) ∧ (0 ≤ age ∧ age ≤ 1000) ∧ 0 ≤ now ∧ now ≤ 1000) ∧ n = 0 ∧ (∀ e, 0 ≤ m.g e ∧ m.g e ≤ 18446744073709551615) ∧ m.g (cl t 0) = 1 ∧ m.g (cl t 1) ≤ 3 ∧ m.g (cl t 4) ≤ 1000 ∧ ∀ e, e < 32 → m.g e = 0
def outSw (age now t : Int) (m : Mm) (n : Nat) : Out (SV × Hp) := .need (preSw age now t m n) (.any (Re × Nat) (fun r => φSw age now t m r.1 ∧ r.1.l.n ≤ r.2) fun r => .leaf (svRe r.1, ⟨hSe age now r.1 r.2, 7, fun _ => True⟩))
def kSw (ke kx : Nat) (h : HL) : List SV → Hp → Out (SV × Hp) := match cellI kx 4 h, cellI ke 7 h, bCell ke 25 h with
  | some t, some age, some (.slc kv _ _ _ ne nc) => fN kv fun kv => fN (scK (bCell ke 22 h)) fun km => fN (scK (bCell ke 23 h)) fun kk => match rdEv kv h, rdMm h km, cellI kk 0 h with
    | some ev, some x, some now => fN x.kc fun kc => useP [ke, km, kc, kx, kv, kk] 6 (argsAl tSw 8 30) (hSw age now t x.m ⟨ne.v, ev⟩ nc.v) (outSw age now t x.m ne.v)
    | _, _, _ => fun _ _ => .bad 494
  | _, _, _ => fun _ _ => .bad 490
def cAlS : List SV → Hp → Out (SV × Hp) := fun args H => match args with
  | [.c (.ptr ke _ _ _ _), .c (.ifc t kx _ _ _ _), .c (.ki .i64 30)] => fN ke fun ke => fN kx fun kx => match Nat.beq t tSw with
    | true => kSw ke kx H.h args H
    | false => .bad 491
  | _ => .bad 493
end
end Go.Proofs.Ytomaagmleafjeaa.Md
