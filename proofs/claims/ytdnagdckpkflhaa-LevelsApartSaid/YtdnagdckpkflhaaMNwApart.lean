/- LevelsApart: deques and bitmaps that do not exist; awake and the law: what is asked. -/
import Derived.Test.YtdnagdckpkflhaaMNw
import Derived.Test.YtdnagdckpkflhaaMNwMem
import Derived.Test.YtdnagdckpkflhaaMW
set_option linter.unusedVariables false
set_option linter.unusedSimpArgs false
set_option linter.unusedVariables false
set_option maxRecDepth 100000
namespace Go.Proofs.Ytdnagdckpkflhaa.Vc
open Go Go.RowKit Sx Cn Dc Ck
/-- The numbers of a layout. -/
structure L11 where
  a0 : Int
  a1 : Int
  a2 : Int
  a3 : Int
  a4 : Int
  a5 : Int
  a6 : Int
  a7 : Int
  a8 : Int
  a9 : Int
  a10 : Int
noncomputable section
def L11.sv (x : L11) : SV := .a [.iv .i64 x.a0, .iv .i64 x.a1, .iv .i64 x.a2, .iv .i64 x.a3, .iv .i64 x.a4, .iv .i64 x.a5, .iv .i64 x.a6, .iv .i64 x.a7, .iv .i64 x.a8, .iv .i64 x.a9, .iv .i64 x.a10]
def rdL11 : SV → Option L11
  | .a [x0, x1, x2, x3, x4, x5, x6, x7, x8, x9, x10] => match numC x0, numC x1, numC x2, numC x3, numC x4, numC x5, numC x6, numC x7, numC x8, numC x9, numC x10 with
    | some a, some b, some c, some d, some e, some f, some g, some h, some i, some j, some k => some ⟨a, b, c, d, e, f, g, h, i, j, k⟩
    | _, _, _, _, _, _, _, _, _, _, _ => none
  | _ => none
def noQ : SV := .a [.ki .i64 (-1), .ki .i64 (-1), .ki .i64 (-1), .ki .i64 0]
def verQNo (x : L11) (w v : Int) : V := verF P con0 3 4 182 [] .nil [x.sv, iv w, iv v] ⟨[], 0, fun _ => True⟩ (fin1 0 noQ)
def verBNo (x : L11) (w : Int) : V := verF P con0 3 4 184 [] .nil [x.sv, iv w] ⟨[], 0, fun _ => True⟩ (fin1 0 (.c (.ki .i64 (-1))))
def conQNo : List SV → Hp → Out (SV × Hp) := fun args H => match args with
  | [s, .c a, .c b] => match rdL11 s, numC a, numC b with
    | some x, some w, some v => useP [] 0 [x.sv, iv w, iv v] [] (.need (w < 0 ∨ x.a0 ≤ w ∨ v < 0 ∨ x.a1 ≤ v) (.leaf (noQ, ⟨[], 0, fun _ => True⟩))) args H
    | _, _, _ => .bad 470
  | _ => .bad 471
def conBNo : List SV → Hp → Out (SV × Hp) := fun args H => match args with
  | [s, .c a] => match rdL11 s, numC a with
    | some x, some w => useP [] 0 [x.sv, iv w] [] (.need (w < 0 ∨ x.a0 ≤ w) (.leaf (.c (.ki .i64 (-1)), ⟨[], 0, fun _ => True⟩))) args H
    | _, _ => .bad 472
  | _ => .bad 473
def conWL : Con := conMem (Con.add 134 conLen conW)
theorem conWL_ok : ConOK P conWL := conMem_ok (.add conLen_ok conW_ok)
def verAw13 : V := verF P conWL 16 12 27 [(4, fgE 1), (5, fgE 1), (6, fgE 1), (7, fgE 1)] .nil [] ⟨[], 0, fun _ => True⟩ (psYes.fin 0)
def con13 : Con := Con.add 182 conQNo (Con.add 184 conBNo (Con.add 27 conYes conW))
def verApart (g : Nat → Int) (len cap : Nat) (w v x : Int) : V := verF P con13 4 12 4 [] .nil [.c (slK 0 1 len cap), iv w, iv v, iv x] ⟨[(0, ints .u8 len g)], 1, fun _ => True⟩ yesV
end
end Go.Proofs.Ytdnagdckpkflhaa.Vc

/- Config of the statements: the conditions, printed by program. -/
set_option linter.unusedVariables false
set_option maxRecDepth 100000
namespace Go.Proofs.Ytdnagdckpkflhaa.Vc
open Go Go.RowKit Sx Cn Dc Ck

theorem verQNo_eq (x : L11) (w v : Int) : verQNo x w v =
  V.br (decide (w < Int.ofNat 0))
    (V.br (decide (v < Int.ofNat 0))
    (V.need True V.ok)
    (V.br (decide (v ≥ x.a1))
    (V.need True V.ok)
    (V.need True V.ok)))
    (V.br (decide (w ≥ x.a0))
    (V.br (decide (v < Int.ofNat 0))
    (V.need True V.ok)
    (V.br (decide (v ≥ x.a1))
    (V.need True V.ok)
    (V.need True V.ok)))
    (V.br (decide (v < Int.ofNat 0))
    (V.br (decide (IntKind.i64.wrap (x.a9 + IntKind.i64.wrap (w * IntKind.i64.wrap (x.a1 * IntKind.i64.wrap (Int.ofNat 2 + x.a4)))) < Int.ofNat 0))
    (V.need True V.ok)
    (V.need True V.ok))
    (V.br (decide (v ≥ x.a1))
    (V.br (decide (IntKind.i64.wrap (x.a9 + IntKind.i64.wrap (w * IntKind.i64.wrap (x.a1 * IntKind.i64.wrap (Int.ofNat 2 + x.a4)))) < Int.ofNat 0))
    (V.need True V.ok)
    (V.need True V.ok))
    (V.br (decide (IntKind.i64.wrap (x.a9 + IntKind.i64.wrap (w * IntKind.i64.wrap (x.a1 * IntKind.i64.wrap (Int.ofNat 2 + x.a4)))) < Int.ofNat 0))
    (V.need True V.ok)
    (V.br (decide (IntKind.i64.wrap (IntKind.i64.wrap (x.a9 + IntKind.i64.wrap (w * IntKind.i64.wrap (x.a1 * IntKind.i64.wrap (Int.ofNat 2 + x.a4)))) + IntKind.i64.wrap (v * IntKind.i64.wrap (Int.ofNat 2 + x.a4))) < Int.ofNat 0))
    (V.need True V.ok)
    (V.need True
    (V.need (IntKind.i64.wrap (IntKind.i64.wrap (x.a9 + IntKind.i64.wrap (w * IntKind.i64.wrap (x.a1 * IntKind.i64.wrap (Int.ofNat 2 + x.a4)))) + IntKind.i64.wrap (v * IntKind.i64.wrap (Int.ofNat 2 + x.a4))) = Int.negSucc 0)
    (V.need (IntKind.i64.wrap (IntKind.i64.wrap (IntKind.i64.wrap (x.a9 + IntKind.i64.wrap (w * IntKind.i64.wrap (x.a1 * IntKind.i64.wrap (Int.ofNat 2 + x.a4)))) + IntKind.i64.wrap (v * IntKind.i64.wrap (Int.ofNat 2 + x.a4))) + Int.ofNat 1) = Int.negSucc 0)
    (V.need (IntKind.i64.wrap (IntKind.i64.wrap (IntKind.i64.wrap (x.a9 + IntKind.i64.wrap (w * IntKind.i64.wrap (x.a1 * IntKind.i64.wrap (Int.ofNat 2 + x.a4)))) + IntKind.i64.wrap (v * IntKind.i64.wrap (Int.ofNat 2 + x.a4))) + Int.ofNat 2) = Int.negSucc 0)
    (V.need (x.a4 = Int.ofNat 0) V.ok)))))))))) := by kernel_rfl

theorem verBNo_eq (x : L11) (w : Int) : verBNo x w =
  V.br (decide (w < Int.ofNat 0))
    (V.need True V.ok)
    (V.br (decide (w ≥ x.a0))
    (V.need True V.ok)
    (V.need True
    (V.need (IntKind.i64.wrap (x.a8 + IntKind.i64.wrap (w * Int.ofNat 1)) = Int.negSucc 0) V.ok))) := by kernel_rfl

theorem verAw13_eq  : verAw13 =
  V.need ((U8 0 fun (x : Nat) => Int.ofNat 0) ∧ 0 ≤ 9)
    (V.need (∃ (x : Nat × Nat × (Nat → Nat)), 1 ≤ x.fst)
    (V.any (Nat × Nat × (Nat → Nat)) (fun (x : Nat × Nat × (Nat → Nat)) => 1 ≤ x.fst) fun (x : Nat × Nat × (Nat → Nat)) => nN [(1, .eqI 1 1), (1, .eqI 2 2), (5, .eqI 1 1), (1, .eqI 0 0), (1, .eqI 1 1), (1, .eq 1 1)]
    (V.need (x.fst = x.fst)
    (nN [(1, .eq 0 0)]
    (V.need (x.snd.fst = x.snd.fst)
    (nN [(1, .le 1 1)]
    (V.need (1 ≤ 1 ∧ 1 ≤ x.fst)
    (V.need (∀ (i e : Nat), i = 0 ∧ e < 1 → e = e)
    (V.need (∀ (i e : Nat), i = 0 ∧ e < 1 → 0 = 0)
    (V.need (∀ (i e : Nat), i = 0 ∧ e < 1 → x.snd.snd e = x.snd.snd e)
    (nN [(1, .le 1 1)]
    (V.need (0 ≤ 0 ∧ 0 ≤ x.snd.fst)
    (V.need (∀ (i e : Nat), i = 0 ∧ e < 0 → uP (fun (x : Nat) => Int.ofNat 0) 0 e = uP (fun (x : Nat) => Int.ofNat 0) 0 e)
    (V.need (∀ (i e : Nat), i = 0 ∧ e < 0 → uL (fun (x : Nat) => Int.ofNat 0) 0 e = uL (fun (x : Nat) => Int.ofNat 0) 0 e)
    (V.need (∀ (i e : Nat), i = 0 ∧ e < 0 → uD (fun (x : Nat) => Int.ofNat 0) 0 e = uD (fun (x : Nat) => Int.ofNat 0) 0 e)
    (V.need (∀ (i : Nat), i < 1 → 0 ≤ gd 1 (fun (x : Nat) => 0) i ∧ 0 ≤ gd 1 (fun (e : Nat) => x.snd.snd e) i)
    (V.need (∀ (i e : Nat), i < 1 ∧ e < 0 → cO (fun (x : Nat) => Int.ofNat 0) 0 i e = cO (fun (x : Nat) => Int.ofNat 0) 0 i e)
    (V.need (∀ (i e : Nat), i < 1 ∧ e < 0 → cA (fun (x : Nat) => Int.ofNat 0) 0 i e = cA (fun (x : Nat) => Int.ofNat 0) 0 i e)
    (V.need (∀ (i e : Nat), i < 1 ∧ e < 0 → cB (fun (x : Nat) => Int.ofNat 0) 0 i e = cB (fun (x : Nat) => Int.ofNat 0) 0 i e)
    (V.need (errE (Cf.mk (Int.ofNat 1) (Int.ofNat 2) (Int.ofNat 1) (Int.ofNat 1) (Int.ofNat 1) (Int.ofNat 1) (Int.ofNat 1) (Int.ofNat 0) (Int.ofNat 1) 1 x.fst 0 x.snd.fst (fun (e : Nat) => 0) (fun (e : Nat) => x.snd.snd e) (fun (i e : Nat) => cO (fun (x : Nat) => Int.ofNat 0) 0 i e) (fun (i e : Nat) => cA (fun (x : Nat) => Int.ofNat 0) 0 i e) (fun (i e : Nat) => cB (fun (x : Nat) => Int.ofNat 0) 0 i e) (fun (e : Nat) => uP (fun (x : Nat) => Int.ofNat 0) 0 e) (fun (e : Nat) => uL (fun (x : Nat) => Int.ofNat 0) 0 e) fun (e : Nat) => uD (fun (x : Nat) => Int.ofNat 0) 0 e) = Int.ofNat 0)
    (V.need (∃ (x_1 : Cf × Nat), IsCl (Cf.mk (Int.ofNat 1) (Int.ofNat 2) (Int.ofNat 1) (Int.ofNat 1) (Int.ofNat 1) (Int.ofNat 1) (Int.ofNat 1) (Int.ofNat 0) (Int.ofNat 1) 1 x.fst 0 x.snd.fst (fun (e : Nat) => 0) (fun (e : Nat) => x.snd.snd e) (fun (i e : Nat) => cO (fun (x : Nat) => Int.ofNat 0) 0 i e) (fun (i e : Nat) => cA (fun (x : Nat) => Int.ofNat 0) 0 i e) (fun (i e : Nat) => cB (fun (x : Nat) => Int.ofNat 0) 0 i e) (fun (e : Nat) => uP (fun (x : Nat) => Int.ofNat 0) 0 e) (fun (e : Nat) => uL (fun (x : Nat) => Int.ofNat 0) 0 e) fun (e : Nat) => uD (fun (x : Nat) => Int.ofNat 0) 0 e) x_1.fst ∧ (Int.ofNat 1).toNat ≤ x_1.snd)
    (V.any (Cf × Nat) (fun (x_1 : Cf × Nat) => IsCl (Cf.mk (Int.ofNat 1) (Int.ofNat 2) (Int.ofNat 1) (Int.ofNat 1) (Int.ofNat 1) (Int.ofNat 1) (Int.ofNat 1) (Int.ofNat 0) (Int.ofNat 1) 1 x.fst 0 x.snd.fst (fun (e : Nat) => 0) (fun (e : Nat) => x.snd.snd e) (fun (i e : Nat) => cO (fun (x : Nat) => Int.ofNat 0) 0 i e) (fun (i e : Nat) => cA (fun (x : Nat) => Int.ofNat 0) 0 i e) (fun (i e : Nat) => cB (fun (x : Nat) => Int.ofNat 0) 0 i e) (fun (e : Nat) => uP (fun (x : Nat) => Int.ofNat 0) 0 e) (fun (e : Nat) => uL (fun (x : Nat) => Int.ofNat 0) 0 e) fun (e : Nat) => uD (fun (x : Nat) => Int.ofNat 0) 0 e) x_1.fst ∧ (Int.ofNat 1).toNat ≤ x_1.snd) fun (x : Cf × Nat) => nN [(31, .lt2 0 1 0 1), (1, .eqI 9 9), (5, .eqI 0 0), (1, .eq 19 19), (1, .le 19 19)]
    (V.need (19 = 19 ∧ True)
    (nN [(9, .lt2 0 1 0 1), (1, .eqI 8 8), (1, .eqI 1 1), (1, .eqI 9 9), (2, .eqI 0 0), (1, .eqI 1 1), (1, .eq 19 19), (1, .le 19 19)]
    (V.need (19 = 19 ∧ True)
    (nN [(23, .lt2 0 1 0 1), (1, .neI 1 0), (3, .lt2 0 1 0 1), (1, .eqI 10 10), (1, .eqI 5 5), (1, .eqI 1 1), (1, .eqI 8 8), (2, .eqI 0 0), (1, .eqI 2 2), (1, .eq 19 19), (1, .le 19 19)]
    (V.need (19 = 19 ∧ True)
    (nN [(10, .lt2 0 1 0 1), (1, .eqI 9 9), (1, .eqI 1 1), (1, .eqI 2 2), (1, .eqI 10 10), (1, .eqI 0 0), (1, .eqI 5 5), (1, .eqI 3 3), (1, .eq 19 19), (1, .le 19 19)]
    (V.need (19 = 19 ∧ True)
    (nN [(38, .lt2 0 1 0 1), (1, .leI 0 0), (1, .eqI 7 7), (1, .eqI 1 1), (1, .eqI 2 2), (1, .eqI 9 9), (1, .eqI 0 0), (1, .eqI 1 1), (1, .eqI 4 4), (1, .eq 19 19), (1, .le 19 19)]
    (V.need (19 = 19 ∧ True)
    (nN [(43, .lt2 0 1 0 1), (1, .eqI 12 12), (1, .eqI 4 4), (1, .eqI 7 7), (1, .eqI 0 0), (1, .eqI 1 1), (1, .eqI 5 5), (1, .eq 19 19), (1, .le 19 19)]
    (V.need (19 = 19 ∧ True)
    (nN [(9, .lt2 0 1 0 1), (1, .eqI 11 11), (1, .eqI 1 1), (1, .eqI 12 12), (2, .eqI 0 0), (1, .eqI 6 6), (1, .eq 19 19), (1, .le 19 19)]
    (V.need (19 = 19 ∧ True)
    (nN [(23, .lt2 0 1 0 1), (1, .neI 1 0), (3, .lt2 0 1 0 1), (1, .eqI 13 13), (1, .eqI 6 6), (1, .eqI 1 1), (1, .eqI 11 11), (2, .eqI 0 0), (1, .eqI 7 7), (1, .eq 19 19), (1, .le 19 19)]
    (V.need (19 = 19 ∧ True)
    (nN [(10, .lt2 0 1 0 1), (1, .eqI 12 12), (1, .eqI 1 1), (1, .eqI 2 2), (1, .eqI 13 13), (1, .eqI 0 0), (1, .eqI 6 6), (1, .eqI 8 8), (1, .eq 19 19), (1, .le 19 19)]
    (V.need (19 = 19 ∧ True)
    (nN [(38, .lt2 0 1 0 1), (1, .leI 0 1), (1, .eqI 7 7), (2, .eqI 2 2), (1, .eqI 12 12), (1, .eqI 0 0), (1, .eqI 1 1), (1, .eqI 9 9), (1, .eq 19 19), (1, .le 19 19)]
    (V.need (19 = 19 ∧ True)
    (nN [(31, .lt2 0 1 0 1), (1, .eqI 7 7), (1, .eqI 4 4), (1, .eqI 7 7), (1, .eqI 1 1), (1, .eqI 3 3), (1, .eqI 10 10), (1, .eq 19 19), (1, .le 19 19)]
    (V.need (19 = 19 ∧ True)
    (nN [(1, .leI2 0 3 3 18446744073709551615), (29, .lt2 0 1 0 1), (1, .eqI 12 12), (1, .eqI 1 1), (1, .eqI 7 7), (2, .eqI 3 3), (1, .eqI 11 11), (1, .eq 19 19), (1, .le 19 19)]
    (V.need (19 = 19 ∧ True)
    (nN [(6, .lt2 0 1 0 1), (1, .eqI 11 11), (1, .eqI 1 1), (1, .eqI 12 12), (2, .eqI 1 1), (1, .eqI 12 12), (1, .eq 19 19), (1, .le 19 19)]
    (V.need (19 = 19 ∧ True)
    (nN [(19, .lt2 0 1 0 1), (1, .eqI 12 12), (1, .eqI 0 0), (1, .eqI 1 1), (1, .eqI 11 11), (2, .eqI 0 0), (1, .eqI 13 13), (1, .eq 19 19), (1, .le 19 19)]
    (V.need (19 = 19 ∧ True)
    (nN [(13, .lt2 0 1 0 1), (1, .eqI 11 11), (1, .eqI 2 2), (1, .eqI 12 12), (1, .eqI 1 1), (1, .eqI 0 0), (1, .eqI 14 14), (1, .eq 19 19), (1, .le 19 19)]
    (V.need (19 = 19 ∧ True)
    (nN [(24, .lt2 0 1 0 1), (1, .eqI 11 11), (1, .eqI 0 0), (2, .eqI 1 1), (1, .eqI 11 11), (2, .eqI 0 0), (1, .eqI 15 15), (1, .eq 19 19), (1, .le 19 19)]
    (V.need (19 = 19 ∧ numAt [SC.ki IntKind.u64 (Int.ofNat 0), SC.ki IntKind.u64 (Int.ofNat 0), SC.ki IntKind.u64 (Int.ofNat 0), SC.ki IntKind.u64 (Int.ofNat 0), SC.ki IntKind.u64 (Int.ofNat 0), SC.ki IntKind.u64 (Int.ofNat 0), SC.ki IntKind.u64 (Int.ofNat 0), SC.ki IntKind.u64 (Int.ofNat 3), SC.ki IntKind.u64 (Int.ofNat 0), SC.ki IntKind.u64 (Int.ofNat 1), SC.ki IntKind.u64 (Int.ofNat 5), SC.ki IntKind.u64 (Int.ofNat 0), SC.ki IntKind.u64 (Int.ofNat 0), SC.ki IntKind.u64 (Int.ofNat 6), SC.ki IntKind.u64 (Int.ofNat 0), SC.ki IntKind.u64 (Int.ofNat 0), SC.ki IntKind.u64 (Int.ofNat 0), SC.ki IntKind.u64 (Int.ofNat 0), SC.ki IntKind.u64 (Int.ofNat 0)] 11 = Int.ofNat 0)
    (nN [(13, .lt2 0 1 0 1), (1, .eqI 12 12), (1, .eqI 1 1), (1, .eqI 3 3), (1, .eqI 11 11), (1, .eqI 0 0), (1, .eqI 1 1), (1, .eqI 16 16), (1, .eq 19 19), (1, .le 19 19)]
    (V.need (19 = 19 ∧ True)
    (nN [(21, .lt2 0 1 0 1), (1, .neI 1 0), (1, .eqI 13 13), (1, .eqI 2 2), (1, .eqI 12 12), (1, .eqI 0 0), (1, .eqI 1 1), (1, .eqI 17 17), (1, .eq 19 19), (1, .le 19 19)]
    (V.need (19 = 19 ∧ True)
    (nN [(31, .lt2 0 1 0 1), (1, .eqI 7 7), (1, .eqI 1 1), (1, .eqI 13 13), (2, .eqI 6 6), (1, .eqI 18 18), (1, .eq 19 19), (1, .le 19 19)]
    (V.need (19 = 19 ∧ True)
    (nN [(1, .leI2 0 3 3 18446744073709551615), (29, .lt2 0 1 0 1), (1, .eqI 12 12), (1, .eqI 1 1), (1, .eqI 7 7), (2, .eqI 3 3), (1, .eqI 19 19), (1, .eq 19 19), (1, .le 19 19)]
    (V.need (19 = 19 ∧ True)
    (nN [(6, .lt2 0 1 0 1), (1, .eqI 11 11), (1, .eqI 1 1), (1, .eqI 12 12), (2, .eqI 1 1), (1, .eqI 20 20), (1, .eq 19 19), (1, .le 19 19)]
    (V.need (19 = 19 ∧ True)
    (nN [(54, .lt2 0 1 0 1), (1, .leI 0 1), (6, .lt2 0 1 0 1), (1, .eqI 7 7), (1, .eqI 18446744073709551613 18446744073709551613), (1, .eqI 1 1), (1, .eqI 11 11), (2, .eqI 1 1), (1, .eqI 21 21), (1, .eq 19 19), (1, .le 19 19)]
    (V.need (19 = 19 ∧ True)
    (nN [(1, .leI 0 1), (7, .lt2 0 1 0 1), (1, .eqI 12 12), (1, .eqI 5 5), (1, .eqI 7 7), (1, .eqI 3 3), (1, .eqI 1 1), (1, .eqI 22 22), (1, .eq 19 19), (1, .le 19 19)]
    (V.need (19 = 19 ∧ True)
    (nN [(2, .lt2 0 1 0 1), (1, .leI 0 1), (7, .lt2 0 1 0 1), (1, .eqI 11 11), (1, .eqI 1 1), (1, .eqI 12 12), (2, .eqI 1 1), (1, .eqI 23 23), (1, .eq 19 19), (1, .le 19 19)]
    (V.need (19 = 19 ∧ True)
    (nN [(25, .lt2 0 1 0 1), (1, .eqI 7 7), (1, .eqI 1 1), (1, .eqI 11 11), (2, .eqI 1 1), (1, .eqI 24 24), (1, .eq 19 19), (1, .le 19 19)]
    (V.need (19 = 19 ∧ True)
    (nN [(1, .leI2 0 1 1 18446744073709551615), (29, .lt2 0 1 0 1), (1, .eqI 9 9), (1, .eqI 1 1), (1, .eqI 7 7), (2, .eqI 1 1), (1, .eqI 25 25), (1, .eq 19 19), (1, .le 19 19)]
    (V.need (19 = 19 ∧ True)
    (nN [(6, .lt2 0 1 0 1), (1, .eqI 8 8), (1, .eqI 1 1), (1, .eqI 9 9), (2, .eqI 1 1), (1, .eqI 26 26), (1, .eq 19 19), (1, .le 19 19)]
    (V.need (19 = 19 ∧ True)
    (nN [(19, .lt2 0 1 0 1), (1, .eqI 9 9), (1, .eqI 0 0), (1, .eqI 1 1), (1, .eqI 8 8), (2, .eqI 0 0), (1, .eqI 27 27), (1, .eq 19 19), (1, .le 19 19)]
    (V.need (19 = 19 ∧ True)
    (nN [(13, .lt2 0 1 0 1), (1, .eqI 8 8), (1, .eqI 2 2), (1, .eqI 9 9), (1, .eqI 1 1), (1, .eqI 0 0), (1, .eqI 28 28), (1, .eq 19 19), (1, .le 19 19)]
    (V.need (19 = 19 ∧ True)
    (nN [(24, .lt2 0 1 0 1), (1, .eqI 8 8), (1, .eqI 0 0), (2, .eqI 1 1), (1, .eqI 8 8), (2, .eqI 0 0), (1, .eqI 29 29), (1, .eq 19 19), (1, .le 19 19)]
    (V.need (19 = 19 ∧ numAt [SC.ki IntKind.u64 (Int.ofNat 0), SC.ki IntKind.u64 (Int.ofNat 0), SC.ki IntKind.u64 (Int.ofNat 0), SC.ki IntKind.u64 (Int.ofNat 0), SC.ki IntKind.u64 (Int.ofNat 0), SC.ki IntKind.u64 (Int.ofNat 0), SC.ki IntKind.u64 (Int.ofNat 0), SC.ki IntKind.u64 (Int.ofNat 1), SC.ki IntKind.u64 (Int.ofNat 0), SC.ki IntKind.u64 (Int.ofNat 0), SC.ki IntKind.u64 (Int.ofNat 5), SC.ki IntKind.u64 (Int.ofNat 1), SC.ki IntKind.u64 (Int.ofNat 1), SC.ki IntKind.u64 (Int.ofNat 6), SC.ki IntKind.u64 (Int.ofNat 0), SC.ki IntKind.u64 (Int.ofNat 0), SC.ki IntKind.u64 (Int.ofNat 0), SC.ki IntKind.u64 (Int.ofNat 0), SC.ki IntKind.u64 (Int.ofNat 0)] 8 = Int.ofNat 0)
    (nN [(13, .lt2 0 1 0 1), (1, .eqI 9 9), (1, .eqI 1 1), (1, .eqI 3 3), (1, .eqI 8 8), (1, .eqI 0 0), (1, .eqI 1 1), (1, .eqI 30 30), (1, .eq 19 19), (1, .le 19 19)]
    (V.need (19 = 19 ∧ True)
    (nN [(21, .lt2 0 1 0 1), (1, .neI 1 0), (1, .eqI 10 10), (1, .eqI 2 2), (1, .eqI 9 9), (1, .eqI 0 0), (1, .eqI 1 1), (1, .eqI 31 31), (1, .eq 19 19), (1, .le 19 19)]
    (V.need (19 = 19 ∧ True)
    (nN [(12, .lt2 0 1 0 1)]
    (V.need True V.ok))))))))))))))))))))))))))))))))))))))))))))))))))))))))))))))))))))))))))))))))))))))) := by kernel_rfl

set_option maxHeartbeats 8000000 in
theorem verApart_eq (g : Nat → Int) (len cap : Nat) (w v x : Int) : verApart g len cap w v x =
  V.br (!decide ((↑len : Int) ≤ Int.ofNat 400)) V.ok
    (V.need (len = len)
    (V.need (cap = cap)
    (nN [(1, .le 1 1)]
    (V.need (∀ (i : Nat), i < 1 → len ≤ len)
    (V.need (∀ (i e : Nat), i < 1 ∧ e < len → g e = g e)
    (V.need (U8 len fun (e : Nat) => g e)
    (V.need (∃ (x : Cf), IsDec (fun (e : Nat) => g e) len x)
    (V.any Cf (IsDec (fun (e : Nat) => g e) len) fun (x : Cf) => V.need (x.W = x.W)
    (V.need (x.L = x.L)
    (V.need (x.C = x.C)
    (V.need (x.T = x.T)
    (V.need (x.D = x.D)
    (V.need (x.H = x.H)
    (V.need (x.B = x.B)
    (V.need (x.A = x.A)
    (V.need (x.P = x.P)
    (V.need (x.nP = x.nP)
    (V.need (x.rc = x.rc)
    (V.need (x.nU = x.nU)
    (V.need (x.cu = x.cu)
    (nN [(1, .le 1 1)]
    (V.need (x.nP ≤ x.nP ∧ x.nP ≤ x.rc)
    (V.need (∀ (i e : Nat), i = 0 ∧ e < x.nP → e = e)
    (V.need (∀ (i e : Nat), i = 0 ∧ e < x.nP → x.lenP e = x.lenP e)
    (V.need (∀ (i e : Nat), i = 0 ∧ e < x.nP → x.FC e = x.FC e)
    (nN [(1, .le 1 1)]
    (V.need (x.nU ≤ x.nU ∧ x.nU ≤ x.cu)
    (V.need (∀ (i e : Nat), i = 0 ∧ e < x.nU → x.uP e = x.uP e)
    (V.need (∀ (i e : Nat), i = 0 ∧ e < x.nU → x.uL e = x.uL e)
    (V.need (∀ (i e : Nat), i = 0 ∧ e < x.nU → x.uD e = x.uD e)
    (V.need (∀ (i : Nat), i < x.nP → x.lenP i ≤ gd x.nP x.lenP i ∧ x.lenP i ≤ gd x.nP x.FC i)
    (V.need (∀ (i e : Nat), i < x.nP ∧ e < x.lenP i → x.iO i e = x.iO i e)
    (V.need (∀ (i e : Nat), i < x.nP ∧ e < x.lenP i → x.iA i e = x.iA i e)
    (V.need (∀ (i e : Nat), i < x.nP ∧ e < x.lenP i → x.iB i e = x.iB i e)
    (V.need (errE (Cf.mk x.W x.L x.C x.T x.D x.H x.B x.A x.P x.nP x.rc x.nU x.cu (fun (e : Nat) => x.lenP e) (fun (e : Nat) => x.FC e) (fun (i e : Nat) => x.iO i e) (fun (i e : Nat) => x.iA i e) (fun (i e : Nat) => x.iB i e) (fun (e : Nat) => x.uP e) (fun (e : Nat) => x.uL e) fun (e : Nat) => x.uD e) = Int.ofNat 0)
    (V.need (∃ (x_1 : Cf × Nat), IsCl (Cf.mk x.W x.L x.C x.T x.D x.H x.B x.A x.P x.nP x.rc x.nU x.cu (fun (e : Nat) => x.lenP e) (fun (e : Nat) => x.FC e) (fun (i e : Nat) => x.iO i e) (fun (i e : Nat) => x.iA i e) (fun (i e : Nat) => x.iB i e) (fun (e : Nat) => x.uP e) (fun (e : Nat) => x.uL e) fun (e : Nat) => x.uD e) x_1.fst ∧ x.T.toNat ≤ x_1.snd)
    (V.any (Cf × Nat) (fun (x_1 : Cf × Nat) => IsCl (Cf.mk x.W x.L x.C x.T x.D x.H x.B x.A x.P x.nP x.rc x.nU x.cu (fun (e : Nat) => x.lenP e) (fun (e : Nat) => x.FC e) (fun (i e : Nat) => x.iO i e) (fun (i e : Nat) => x.iA i e) (fun (i e : Nat) => x.iB i e) (fun (e : Nat) => x.uP e) (fun (e : Nat) => x.uL e) fun (e : Nat) => x.uD e) x_1.fst ∧ x.T.toNat ≤ x_1.snd) fun (x_1 : Cf × Nat) => V.need True
    (V.br (decide (w ≥ Int.ofNat 0))
    (V.br (decide (w < x.W))
    (V.br (decide (v ≥ Int.ofNat 0))
    (V.br (decide (v < x.L))
    (nN [(19, .lt2 0 1 0 1)]
    (V.need (x.W = x.W)
    (V.need (x.L = x.L)
    (V.need (x.C = x.C)
    (V.need (x.T = x.T)
    (V.need (x.D = x.D)
    (V.need (x.H = x.H)
    (V.need (lS (Cf.mk x.W x.L x.C x.T x.D x.H x.B x.A x.P x.nP x.rc x.nU x.cu (fun (e : Nat) => x.lenP e) (fun (e : Nat) => x.FC e) (fun (i e : Nat) => x.iO i e) (fun (i e : Nat) => x.iA i e) (fun (i e : Nat) => x.iB i e) (fun (e : Nat) => x.uP e) (fun (e : Nat) => x.uL e) fun (e : Nat) => x.uD e) = lS (Cf.mk x.W x.L x.C x.T x.D x.H x.B x.A x.P x.nP x.rc x.nU x.cu (fun (e : Nat) => x.lenP e) (fun (e : Nat) => x.FC e) (fun (i e : Nat) => x.iO i e) (fun (i e : Nat) => x.iA i e) (fun (i e : Nat) => x.iB i e) (fun (e : Nat) => x.uP e) (fun (e : Nat) => x.uL e) fun (e : Nat) => x.uD e))
    (V.need (lE (Cf.mk x.W x.L x.C x.T x.D x.H x.B x.A x.P x.nP x.rc x.nU x.cu (fun (e : Nat) => x.lenP e) (fun (e : Nat) => x.FC e) (fun (i e : Nat) => x.iO i e) (fun (i e : Nat) => x.iA i e) (fun (i e : Nat) => x.iB i e) (fun (e : Nat) => x.uP e) (fun (e : Nat) => x.uL e) fun (e : Nat) => x.uD e) = lE (Cf.mk x.W x.L x.C x.T x.D x.H x.B x.A x.P x.nP x.rc x.nU x.cu (fun (e : Nat) => x.lenP e) (fun (e : Nat) => x.FC e) (fun (i e : Nat) => x.iO i e) (fun (i e : Nat) => x.iA i e) (fun (i e : Nat) => x.iB i e) (fun (e : Nat) => x.uP e) (fun (e : Nat) => x.uL e) fun (e : Nat) => x.uD e))
    (V.need (lB (Cf.mk x.W x.L x.C x.T x.D x.H x.B x.A x.P x.nP x.rc x.nU x.cu (fun (e : Nat) => x.lenP e) (fun (e : Nat) => x.FC e) (fun (i e : Nat) => x.iO i e) (fun (i e : Nat) => x.iA i e) (fun (i e : Nat) => x.iB i e) (fun (e : Nat) => x.uP e) (fun (e : Nat) => x.uL e) fun (e : Nat) => x.uD e) = lB (Cf.mk x.W x.L x.C x.T x.D x.H x.B x.A x.P x.nP x.rc x.nU x.cu (fun (e : Nat) => x.lenP e) (fun (e : Nat) => x.FC e) (fun (i e : Nat) => x.iO i e) (fun (i e : Nat) => x.iA i e) (fun (i e : Nat) => x.iB i e) (fun (e : Nat) => x.uP e) (fun (e : Nat) => x.uL e) fun (e : Nat) => x.uD e))
    (V.need (lQ (Cf.mk x.W x.L x.C x.T x.D x.H x.B x.A x.P x.nP x.rc x.nU x.cu (fun (e : Nat) => x.lenP e) (fun (e : Nat) => x.FC e) (fun (i e : Nat) => x.iO i e) (fun (i e : Nat) => x.iA i e) (fun (i e : Nat) => x.iB i e) (fun (e : Nat) => x.uP e) (fun (e : Nat) => x.uL e) fun (e : Nat) => x.uD e) = lQ (Cf.mk x.W x.L x.C x.T x.D x.H x.B x.A x.P x.nP x.rc x.nU x.cu (fun (e : Nat) => x.lenP e) (fun (e : Nat) => x.FC e) (fun (i e : Nat) => x.iO i e) (fun (i e : Nat) => x.iA i e) (fun (i e : Nat) => x.iB i e) (fun (e : Nat) => x.uP e) (fun (e : Nat) => x.uL e) fun (e : Nat) => x.uD e))
    (V.need (lT (Cf.mk x.W x.L x.C x.T x.D x.H x.B x.A x.P x.nP x.rc x.nU x.cu (fun (e : Nat) => x.lenP e) (fun (e : Nat) => x.FC e) (fun (i e : Nat) => x.iO i e) (fun (i e : Nat) => x.iA i e) (fun (i e : Nat) => x.iB i e) (fun (e : Nat) => x.uP e) (fun (e : Nat) => x.uL e) fun (e : Nat) => x.uD e) = lT (Cf.mk x.W x.L x.C x.T x.D x.H x.B x.A x.P x.nP x.rc x.nU x.cu (fun (e : Nat) => x.lenP e) (fun (e : Nat) => x.FC e) (fun (i e : Nat) => x.iO i e) (fun (i e : Nat) => x.iA i e) (fun (i e : Nat) => x.iB i e) (fun (e : Nat) => x.uP e) (fun (e : Nat) => x.uL e) fun (e : Nat) => x.uD e))
    (V.need (w = w)
    (V.need (IntKind.i64.wrap (v + x.L) = IntKind.i64.wrap (v + x.L))
    (V.need (w < Int.ofNat 0 ∨ x.W ≤ w ∨ IntKind.i64.wrap (v + x.L) < Int.ofNat 0 ∨ x.L ≤ IntKind.i64.wrap (v + x.L))
    (nN [(40, .lt2 0 1 0 1)]
    (V.br (decide (w ≥ Int.ofNat 0))
    (V.br (decide (w < x.W)) V.ok
    (nN [(19, .lt2 0 1 0 1)]
    (V.need (x.W = x.W)
    (V.need (x.L = x.L)
    (V.need (x.C = x.C)
    (V.need (x.T = x.T)
    (V.need (x.D = x.D)
    (V.need (x.H = x.H)
    (V.need (lS (Cf.mk x.W x.L x.C x.T x.D x.H x.B x.A x.P x.nP x.rc x.nU x.cu (fun (e : Nat) => x.lenP e) (fun (e : Nat) => x.FC e) (fun (i e : Nat) => x.iO i e) (fun (i e : Nat) => x.iA i e) (fun (i e : Nat) => x.iB i e) (fun (e : Nat) => x.uP e) (fun (e : Nat) => x.uL e) fun (e : Nat) => x.uD e) = lS (Cf.mk x.W x.L x.C x.T x.D x.H x.B x.A x.P x.nP x.rc x.nU x.cu (fun (e : Nat) => x.lenP e) (fun (e : Nat) => x.FC e) (fun (i e : Nat) => x.iO i e) (fun (i e : Nat) => x.iA i e) (fun (i e : Nat) => x.iB i e) (fun (e : Nat) => x.uP e) (fun (e : Nat) => x.uL e) fun (e : Nat) => x.uD e))
    (V.need (lE (Cf.mk x.W x.L x.C x.T x.D x.H x.B x.A x.P x.nP x.rc x.nU x.cu (fun (e : Nat) => x.lenP e) (fun (e : Nat) => x.FC e) (fun (i e : Nat) => x.iO i e) (fun (i e : Nat) => x.iA i e) (fun (i e : Nat) => x.iB i e) (fun (e : Nat) => x.uP e) (fun (e : Nat) => x.uL e) fun (e : Nat) => x.uD e) = lE (Cf.mk x.W x.L x.C x.T x.D x.H x.B x.A x.P x.nP x.rc x.nU x.cu (fun (e : Nat) => x.lenP e) (fun (e : Nat) => x.FC e) (fun (i e : Nat) => x.iO i e) (fun (i e : Nat) => x.iA i e) (fun (i e : Nat) => x.iB i e) (fun (e : Nat) => x.uP e) (fun (e : Nat) => x.uL e) fun (e : Nat) => x.uD e))
    (V.need (lB (Cf.mk x.W x.L x.C x.T x.D x.H x.B x.A x.P x.nP x.rc x.nU x.cu (fun (e : Nat) => x.lenP e) (fun (e : Nat) => x.FC e) (fun (i e : Nat) => x.iO i e) (fun (i e : Nat) => x.iA i e) (fun (i e : Nat) => x.iB i e) (fun (e : Nat) => x.uP e) (fun (e : Nat) => x.uL e) fun (e : Nat) => x.uD e) = lB (Cf.mk x.W x.L x.C x.T x.D x.H x.B x.A x.P x.nP x.rc x.nU x.cu (fun (e : Nat) => x.lenP e) (fun (e : Nat) => x.FC e) (fun (i e : Nat) => x.iO i e) (fun (i e : Nat) => x.iA i e) (fun (i e : Nat) => x.iB i e) (fun (e : Nat) => x.uP e) (fun (e : Nat) => x.uL e) fun (e : Nat) => x.uD e))
    (V.need (lQ (Cf.mk x.W x.L x.C x.T x.D x.H x.B x.A x.P x.nP x.rc x.nU x.cu (fun (e : Nat) => x.lenP e) (fun (e : Nat) => x.FC e) (fun (i e : Nat) => x.iO i e) (fun (i e : Nat) => x.iA i e) (fun (i e : Nat) => x.iB i e) (fun (e : Nat) => x.uP e) (fun (e : Nat) => x.uL e) fun (e : Nat) => x.uD e) = lQ (Cf.mk x.W x.L x.C x.T x.D x.H x.B x.A x.P x.nP x.rc x.nU x.cu (fun (e : Nat) => x.lenP e) (fun (e : Nat) => x.FC e) (fun (i e : Nat) => x.iO i e) (fun (i e : Nat) => x.iA i e) (fun (i e : Nat) => x.iB i e) (fun (e : Nat) => x.uP e) (fun (e : Nat) => x.uL e) fun (e : Nat) => x.uD e))
    (V.need (lT (Cf.mk x.W x.L x.C x.T x.D x.H x.B x.A x.P x.nP x.rc x.nU x.cu (fun (e : Nat) => x.lenP e) (fun (e : Nat) => x.FC e) (fun (i e : Nat) => x.iO i e) (fun (i e : Nat) => x.iA i e) (fun (i e : Nat) => x.iB i e) (fun (e : Nat) => x.uP e) (fun (e : Nat) => x.uL e) fun (e : Nat) => x.uD e) = lT (Cf.mk x.W x.L x.C x.T x.D x.H x.B x.A x.P x.nP x.rc x.nU x.cu (fun (e : Nat) => x.lenP e) (fun (e : Nat) => x.FC e) (fun (i e : Nat) => x.iO i e) (fun (i e : Nat) => x.iA i e) (fun (i e : Nat) => x.iB i e) (fun (e : Nat) => x.uP e) (fun (e : Nat) => x.uL e) fun (e : Nat) => x.uD e))
    (V.need (w = w)
    (V.need (w < Int.ofNat 0 ∨ x.W ≤ w)
    (nN [(6, .lt2 0 1 0 1)] V.ok))))))))))))))))
    (nN [(19, .lt2 0 1 0 1)]
    (V.need (x.W = x.W)
    (V.need (x.L = x.L)
    (V.need (x.C = x.C)
    (V.need (x.T = x.T)
    (V.need (x.D = x.D)
    (V.need (x.H = x.H)
    (V.need (lS (Cf.mk x.W x.L x.C x.T x.D x.H x.B x.A x.P x.nP x.rc x.nU x.cu (fun (e : Nat) => x.lenP e) (fun (e : Nat) => x.FC e) (fun (i e : Nat) => x.iO i e) (fun (i e : Nat) => x.iA i e) (fun (i e : Nat) => x.iB i e) (fun (e : Nat) => x.uP e) (fun (e : Nat) => x.uL e) fun (e : Nat) => x.uD e) = lS (Cf.mk x.W x.L x.C x.T x.D x.H x.B x.A x.P x.nP x.rc x.nU x.cu (fun (e : Nat) => x.lenP e) (fun (e : Nat) => x.FC e) (fun (i e : Nat) => x.iO i e) (fun (i e : Nat) => x.iA i e) (fun (i e : Nat) => x.iB i e) (fun (e : Nat) => x.uP e) (fun (e : Nat) => x.uL e) fun (e : Nat) => x.uD e))
    (V.need (lE (Cf.mk x.W x.L x.C x.T x.D x.H x.B x.A x.P x.nP x.rc x.nU x.cu (fun (e : Nat) => x.lenP e) (fun (e : Nat) => x.FC e) (fun (i e : Nat) => x.iO i e) (fun (i e : Nat) => x.iA i e) (fun (i e : Nat) => x.iB i e) (fun (e : Nat) => x.uP e) (fun (e : Nat) => x.uL e) fun (e : Nat) => x.uD e) = lE (Cf.mk x.W x.L x.C x.T x.D x.H x.B x.A x.P x.nP x.rc x.nU x.cu (fun (e : Nat) => x.lenP e) (fun (e : Nat) => x.FC e) (fun (i e : Nat) => x.iO i e) (fun (i e : Nat) => x.iA i e) (fun (i e : Nat) => x.iB i e) (fun (e : Nat) => x.uP e) (fun (e : Nat) => x.uL e) fun (e : Nat) => x.uD e))
    (V.need (lB (Cf.mk x.W x.L x.C x.T x.D x.H x.B x.A x.P x.nP x.rc x.nU x.cu (fun (e : Nat) => x.lenP e) (fun (e : Nat) => x.FC e) (fun (i e : Nat) => x.iO i e) (fun (i e : Nat) => x.iA i e) (fun (i e : Nat) => x.iB i e) (fun (e : Nat) => x.uP e) (fun (e : Nat) => x.uL e) fun (e : Nat) => x.uD e) = lB (Cf.mk x.W x.L x.C x.T x.D x.H x.B x.A x.P x.nP x.rc x.nU x.cu (fun (e : Nat) => x.lenP e) (fun (e : Nat) => x.FC e) (fun (i e : Nat) => x.iO i e) (fun (i e : Nat) => x.iA i e) (fun (i e : Nat) => x.iB i e) (fun (e : Nat) => x.uP e) (fun (e : Nat) => x.uL e) fun (e : Nat) => x.uD e))
    (V.need (lQ (Cf.mk x.W x.L x.C x.T x.D x.H x.B x.A x.P x.nP x.rc x.nU x.cu (fun (e : Nat) => x.lenP e) (fun (e : Nat) => x.FC e) (fun (i e : Nat) => x.iO i e) (fun (i e : Nat) => x.iA i e) (fun (i e : Nat) => x.iB i e) (fun (e : Nat) => x.uP e) (fun (e : Nat) => x.uL e) fun (e : Nat) => x.uD e) = lQ (Cf.mk x.W x.L x.C x.T x.D x.H x.B x.A x.P x.nP x.rc x.nU x.cu (fun (e : Nat) => x.lenP e) (fun (e : Nat) => x.FC e) (fun (i e : Nat) => x.iO i e) (fun (i e : Nat) => x.iA i e) (fun (i e : Nat) => x.iB i e) (fun (e : Nat) => x.uP e) (fun (e : Nat) => x.uL e) fun (e : Nat) => x.uD e))
    (V.need (lT (Cf.mk x.W x.L x.C x.T x.D x.H x.B x.A x.P x.nP x.rc x.nU x.cu (fun (e : Nat) => x.lenP e) (fun (e : Nat) => x.FC e) (fun (i e : Nat) => x.iO i e) (fun (i e : Nat) => x.iA i e) (fun (i e : Nat) => x.iB i e) (fun (e : Nat) => x.uP e) (fun (e : Nat) => x.uL e) fun (e : Nat) => x.uD e) = lT (Cf.mk x.W x.L x.C x.T x.D x.H x.B x.A x.P x.nP x.rc x.nU x.cu (fun (e : Nat) => x.lenP e) (fun (e : Nat) => x.FC e) (fun (i e : Nat) => x.iO i e) (fun (i e : Nat) => x.iA i e) (fun (i e : Nat) => x.iB i e) (fun (e : Nat) => x.uP e) (fun (e : Nat) => x.uL e) fun (e : Nat) => x.uD e))
    (V.need (w = w)
    (V.need (w < Int.ofNat 0 ∨ x.W ≤ w)
    (nN [(6, .lt2 0 1 0 1)] V.ok))))))))))))))))))))))))))))))))
    (nN [(19, .lt2 0 1 0 1)]
    (V.need (x.W = x.W)
    (V.need (x.L = x.L)
    (V.need (x.C = x.C)
    (V.need (x.T = x.T)
    (V.need (x.D = x.D)
    (V.need (x.H = x.H)
    (V.need (lS (Cf.mk x.W x.L x.C x.T x.D x.H x.B x.A x.P x.nP x.rc x.nU x.cu (fun (e : Nat) => x.lenP e) (fun (e : Nat) => x.FC e) (fun (i e : Nat) => x.iO i e) (fun (i e : Nat) => x.iA i e) (fun (i e : Nat) => x.iB i e) (fun (e : Nat) => x.uP e) (fun (e : Nat) => x.uL e) fun (e : Nat) => x.uD e) = lS (Cf.mk x.W x.L x.C x.T x.D x.H x.B x.A x.P x.nP x.rc x.nU x.cu (fun (e : Nat) => x.lenP e) (fun (e : Nat) => x.FC e) (fun (i e : Nat) => x.iO i e) (fun (i e : Nat) => x.iA i e) (fun (i e : Nat) => x.iB i e) (fun (e : Nat) => x.uP e) (fun (e : Nat) => x.uL e) fun (e : Nat) => x.uD e))
    (V.need (lE (Cf.mk x.W x.L x.C x.T x.D x.H x.B x.A x.P x.nP x.rc x.nU x.cu (fun (e : Nat) => x.lenP e) (fun (e : Nat) => x.FC e) (fun (i e : Nat) => x.iO i e) (fun (i e : Nat) => x.iA i e) (fun (i e : Nat) => x.iB i e) (fun (e : Nat) => x.uP e) (fun (e : Nat) => x.uL e) fun (e : Nat) => x.uD e) = lE (Cf.mk x.W x.L x.C x.T x.D x.H x.B x.A x.P x.nP x.rc x.nU x.cu (fun (e : Nat) => x.lenP e) (fun (e : Nat) => x.FC e) (fun (i e : Nat) => x.iO i e) (fun (i e : Nat) => x.iA i e) (fun (i e : Nat) => x.iB i e) (fun (e : Nat) => x.uP e) (fun (e : Nat) => x.uL e) fun (e : Nat) => x.uD e))
    (V.need (lB (Cf.mk x.W x.L x.C x.T x.D x.H x.B x.A x.P x.nP x.rc x.nU x.cu (fun (e : Nat) => x.lenP e) (fun (e : Nat) => x.FC e) (fun (i e : Nat) => x.iO i e) (fun (i e : Nat) => x.iA i e) (fun (i e : Nat) => x.iB i e) (fun (e : Nat) => x.uP e) (fun (e : Nat) => x.uL e) fun (e : Nat) => x.uD e) = lB (Cf.mk x.W x.L x.C x.T x.D x.H x.B x.A x.P x.nP x.rc x.nU x.cu (fun (e : Nat) => x.lenP e) (fun (e : Nat) => x.FC e) (fun (i e : Nat) => x.iO i e) (fun (i e : Nat) => x.iA i e) (fun (i e : Nat) => x.iB i e) (fun (e : Nat) => x.uP e) (fun (e : Nat) => x.uL e) fun (e : Nat) => x.uD e))
    (V.need (lQ (Cf.mk x.W x.L x.C x.T x.D x.H x.B x.A x.P x.nP x.rc x.nU x.cu (fun (e : Nat) => x.lenP e) (fun (e : Nat) => x.FC e) (fun (i e : Nat) => x.iO i e) (fun (i e : Nat) => x.iA i e) (fun (i e : Nat) => x.iB i e) (fun (e : Nat) => x.uP e) (fun (e : Nat) => x.uL e) fun (e : Nat) => x.uD e) = lQ (Cf.mk x.W x.L x.C x.T x.D x.H x.B x.A x.P x.nP x.rc x.nU x.cu (fun (e : Nat) => x.lenP e) (fun (e : Nat) => x.FC e) (fun (i e : Nat) => x.iO i e) (fun (i e : Nat) => x.iA i e) (fun (i e : Nat) => x.iB i e) (fun (e : Nat) => x.uP e) (fun (e : Nat) => x.uL e) fun (e : Nat) => x.uD e))
    (V.need (lT (Cf.mk x.W x.L x.C x.T x.D x.H x.B x.A x.P x.nP x.rc x.nU x.cu (fun (e : Nat) => x.lenP e) (fun (e : Nat) => x.FC e) (fun (i e : Nat) => x.iO i e) (fun (i e : Nat) => x.iA i e) (fun (i e : Nat) => x.iB i e) (fun (e : Nat) => x.uP e) (fun (e : Nat) => x.uL e) fun (e : Nat) => x.uD e) = lT (Cf.mk x.W x.L x.C x.T x.D x.H x.B x.A x.P x.nP x.rc x.nU x.cu (fun (e : Nat) => x.lenP e) (fun (e : Nat) => x.FC e) (fun (i e : Nat) => x.iO i e) (fun (i e : Nat) => x.iA i e) (fun (i e : Nat) => x.iB i e) (fun (e : Nat) => x.uP e) (fun (e : Nat) => x.uL e) fun (e : Nat) => x.uD e))
    (V.need (w = w)
    (V.need (v = v)
    (V.need (w < Int.ofNat 0 ∨ x.W ≤ w ∨ v < Int.ofNat 0 ∨ x.L ≤ v)
    (nN [(40, .lt2 0 1 0 1)]
    (V.br (decide (w ≥ Int.ofNat 0))
    (V.br (decide (w < x.W)) V.ok
    (nN [(19, .lt2 0 1 0 1)]
    (V.need (x.W = x.W)
    (V.need (x.L = x.L)
    (V.need (x.C = x.C)
    (V.need (x.T = x.T)
    (V.need (x.D = x.D)
    (V.need (x.H = x.H)
    (V.need (lS (Cf.mk x.W x.L x.C x.T x.D x.H x.B x.A x.P x.nP x.rc x.nU x.cu (fun (e : Nat) => x.lenP e) (fun (e : Nat) => x.FC e) (fun (i e : Nat) => x.iO i e) (fun (i e : Nat) => x.iA i e) (fun (i e : Nat) => x.iB i e) (fun (e : Nat) => x.uP e) (fun (e : Nat) => x.uL e) fun (e : Nat) => x.uD e) = lS (Cf.mk x.W x.L x.C x.T x.D x.H x.B x.A x.P x.nP x.rc x.nU x.cu (fun (e : Nat) => x.lenP e) (fun (e : Nat) => x.FC e) (fun (i e : Nat) => x.iO i e) (fun (i e : Nat) => x.iA i e) (fun (i e : Nat) => x.iB i e) (fun (e : Nat) => x.uP e) (fun (e : Nat) => x.uL e) fun (e : Nat) => x.uD e))
    (V.need (lE (Cf.mk x.W x.L x.C x.T x.D x.H x.B x.A x.P x.nP x.rc x.nU x.cu (fun (e : Nat) => x.lenP e) (fun (e : Nat) => x.FC e) (fun (i e : Nat) => x.iO i e) (fun (i e : Nat) => x.iA i e) (fun (i e : Nat) => x.iB i e) (fun (e : Nat) => x.uP e) (fun (e : Nat) => x.uL e) fun (e : Nat) => x.uD e) = lE (Cf.mk x.W x.L x.C x.T x.D x.H x.B x.A x.P x.nP x.rc x.nU x.cu (fun (e : Nat) => x.lenP e) (fun (e : Nat) => x.FC e) (fun (i e : Nat) => x.iO i e) (fun (i e : Nat) => x.iA i e) (fun (i e : Nat) => x.iB i e) (fun (e : Nat) => x.uP e) (fun (e : Nat) => x.uL e) fun (e : Nat) => x.uD e))
    (V.need (lB (Cf.mk x.W x.L x.C x.T x.D x.H x.B x.A x.P x.nP x.rc x.nU x.cu (fun (e : Nat) => x.lenP e) (fun (e : Nat) => x.FC e) (fun (i e : Nat) => x.iO i e) (fun (i e : Nat) => x.iA i e) (fun (i e : Nat) => x.iB i e) (fun (e : Nat) => x.uP e) (fun (e : Nat) => x.uL e) fun (e : Nat) => x.uD e) = lB (Cf.mk x.W x.L x.C x.T x.D x.H x.B x.A x.P x.nP x.rc x.nU x.cu (fun (e : Nat) => x.lenP e) (fun (e : Nat) => x.FC e) (fun (i e : Nat) => x.iO i e) (fun (i e : Nat) => x.iA i e) (fun (i e : Nat) => x.iB i e) (fun (e : Nat) => x.uP e) (fun (e : Nat) => x.uL e) fun (e : Nat) => x.uD e))
    (V.need (lQ (Cf.mk x.W x.L x.C x.T x.D x.H x.B x.A x.P x.nP x.rc x.nU x.cu (fun (e : Nat) => x.lenP e) (fun (e : Nat) => x.FC e) (fun (i e : Nat) => x.iO i e) (fun (i e : Nat) => x.iA i e) (fun (i e : Nat) => x.iB i e) (fun (e : Nat) => x.uP e) (fun (e : Nat) => x.uL e) fun (e : Nat) => x.uD e) = lQ (Cf.mk x.W x.L x.C x.T x.D x.H x.B x.A x.P x.nP x.rc x.nU x.cu (fun (e : Nat) => x.lenP e) (fun (e : Nat) => x.FC e) (fun (i e : Nat) => x.iO i e) (fun (i e : Nat) => x.iA i e) (fun (i e : Nat) => x.iB i e) (fun (e : Nat) => x.uP e) (fun (e : Nat) => x.uL e) fun (e : Nat) => x.uD e))
    (V.need (lT (Cf.mk x.W x.L x.C x.T x.D x.H x.B x.A x.P x.nP x.rc x.nU x.cu (fun (e : Nat) => x.lenP e) (fun (e : Nat) => x.FC e) (fun (i e : Nat) => x.iO i e) (fun (i e : Nat) => x.iA i e) (fun (i e : Nat) => x.iB i e) (fun (e : Nat) => x.uP e) (fun (e : Nat) => x.uL e) fun (e : Nat) => x.uD e) = lT (Cf.mk x.W x.L x.C x.T x.D x.H x.B x.A x.P x.nP x.rc x.nU x.cu (fun (e : Nat) => x.lenP e) (fun (e : Nat) => x.FC e) (fun (i e : Nat) => x.iO i e) (fun (i e : Nat) => x.iA i e) (fun (i e : Nat) => x.iB i e) (fun (e : Nat) => x.uP e) (fun (e : Nat) => x.uL e) fun (e : Nat) => x.uD e))
    (V.need (w = w)
    (V.need (w < Int.ofNat 0 ∨ x.W ≤ w)
    (nN [(6, .lt2 0 1 0 1)] V.ok))))))))))))))))
    (nN [(19, .lt2 0 1 0 1)]
    (V.need (x.W = x.W)
    (V.need (x.L = x.L)
    (V.need (x.C = x.C)
    (V.need (x.T = x.T)
    (V.need (x.D = x.D)
    (V.need (x.H = x.H)
    (V.need (lS (Cf.mk x.W x.L x.C x.T x.D x.H x.B x.A x.P x.nP x.rc x.nU x.cu (fun (e : Nat) => x.lenP e) (fun (e : Nat) => x.FC e) (fun (i e : Nat) => x.iO i e) (fun (i e : Nat) => x.iA i e) (fun (i e : Nat) => x.iB i e) (fun (e : Nat) => x.uP e) (fun (e : Nat) => x.uL e) fun (e : Nat) => x.uD e) = lS (Cf.mk x.W x.L x.C x.T x.D x.H x.B x.A x.P x.nP x.rc x.nU x.cu (fun (e : Nat) => x.lenP e) (fun (e : Nat) => x.FC e) (fun (i e : Nat) => x.iO i e) (fun (i e : Nat) => x.iA i e) (fun (i e : Nat) => x.iB i e) (fun (e : Nat) => x.uP e) (fun (e : Nat) => x.uL e) fun (e : Nat) => x.uD e))
    (V.need (lE (Cf.mk x.W x.L x.C x.T x.D x.H x.B x.A x.P x.nP x.rc x.nU x.cu (fun (e : Nat) => x.lenP e) (fun (e : Nat) => x.FC e) (fun (i e : Nat) => x.iO i e) (fun (i e : Nat) => x.iA i e) (fun (i e : Nat) => x.iB i e) (fun (e : Nat) => x.uP e) (fun (e : Nat) => x.uL e) fun (e : Nat) => x.uD e) = lE (Cf.mk x.W x.L x.C x.T x.D x.H x.B x.A x.P x.nP x.rc x.nU x.cu (fun (e : Nat) => x.lenP e) (fun (e : Nat) => x.FC e) (fun (i e : Nat) => x.iO i e) (fun (i e : Nat) => x.iA i e) (fun (i e : Nat) => x.iB i e) (fun (e : Nat) => x.uP e) (fun (e : Nat) => x.uL e) fun (e : Nat) => x.uD e))
    (V.need (lB (Cf.mk x.W x.L x.C x.T x.D x.H x.B x.A x.P x.nP x.rc x.nU x.cu (fun (e : Nat) => x.lenP e) (fun (e : Nat) => x.FC e) (fun (i e : Nat) => x.iO i e) (fun (i e : Nat) => x.iA i e) (fun (i e : Nat) => x.iB i e) (fun (e : Nat) => x.uP e) (fun (e : Nat) => x.uL e) fun (e : Nat) => x.uD e) = lB (Cf.mk x.W x.L x.C x.T x.D x.H x.B x.A x.P x.nP x.rc x.nU x.cu (fun (e : Nat) => x.lenP e) (fun (e : Nat) => x.FC e) (fun (i e : Nat) => x.iO i e) (fun (i e : Nat) => x.iA i e) (fun (i e : Nat) => x.iB i e) (fun (e : Nat) => x.uP e) (fun (e : Nat) => x.uL e) fun (e : Nat) => x.uD e))
    (V.need (lQ (Cf.mk x.W x.L x.C x.T x.D x.H x.B x.A x.P x.nP x.rc x.nU x.cu (fun (e : Nat) => x.lenP e) (fun (e : Nat) => x.FC e) (fun (i e : Nat) => x.iO i e) (fun (i e : Nat) => x.iA i e) (fun (i e : Nat) => x.iB i e) (fun (e : Nat) => x.uP e) (fun (e : Nat) => x.uL e) fun (e : Nat) => x.uD e) = lQ (Cf.mk x.W x.L x.C x.T x.D x.H x.B x.A x.P x.nP x.rc x.nU x.cu (fun (e : Nat) => x.lenP e) (fun (e : Nat) => x.FC e) (fun (i e : Nat) => x.iO i e) (fun (i e : Nat) => x.iA i e) (fun (i e : Nat) => x.iB i e) (fun (e : Nat) => x.uP e) (fun (e : Nat) => x.uL e) fun (e : Nat) => x.uD e))
    (V.need (lT (Cf.mk x.W x.L x.C x.T x.D x.H x.B x.A x.P x.nP x.rc x.nU x.cu (fun (e : Nat) => x.lenP e) (fun (e : Nat) => x.FC e) (fun (i e : Nat) => x.iO i e) (fun (i e : Nat) => x.iA i e) (fun (i e : Nat) => x.iB i e) (fun (e : Nat) => x.uP e) (fun (e : Nat) => x.uL e) fun (e : Nat) => x.uD e) = lT (Cf.mk x.W x.L x.C x.T x.D x.H x.B x.A x.P x.nP x.rc x.nU x.cu (fun (e : Nat) => x.lenP e) (fun (e : Nat) => x.FC e) (fun (i e : Nat) => x.iO i e) (fun (i e : Nat) => x.iA i e) (fun (i e : Nat) => x.iB i e) (fun (e : Nat) => x.uP e) (fun (e : Nat) => x.uL e) fun (e : Nat) => x.uD e))
    (V.need (w = w)
    (V.need (w < Int.ofNat 0 ∨ x.W ≤ w)
    (nN [(6, .lt2 0 1 0 1)] V.ok)))))))))))))))))))))))))))))))))
    (nN [(19, .lt2 0 1 0 1)]
    (V.need (x.W = x.W)
    (V.need (x.L = x.L)
    (V.need (x.C = x.C)
    (V.need (x.T = x.T)
    (V.need (x.D = x.D)
    (V.need (x.H = x.H)
    (V.need (lS (Cf.mk x.W x.L x.C x.T x.D x.H x.B x.A x.P x.nP x.rc x.nU x.cu (fun (e : Nat) => x.lenP e) (fun (e : Nat) => x.FC e) (fun (i e : Nat) => x.iO i e) (fun (i e : Nat) => x.iA i e) (fun (i e : Nat) => x.iB i e) (fun (e : Nat) => x.uP e) (fun (e : Nat) => x.uL e) fun (e : Nat) => x.uD e) = lS (Cf.mk x.W x.L x.C x.T x.D x.H x.B x.A x.P x.nP x.rc x.nU x.cu (fun (e : Nat) => x.lenP e) (fun (e : Nat) => x.FC e) (fun (i e : Nat) => x.iO i e) (fun (i e : Nat) => x.iA i e) (fun (i e : Nat) => x.iB i e) (fun (e : Nat) => x.uP e) (fun (e : Nat) => x.uL e) fun (e : Nat) => x.uD e))
    (V.need (lE (Cf.mk x.W x.L x.C x.T x.D x.H x.B x.A x.P x.nP x.rc x.nU x.cu (fun (e : Nat) => x.lenP e) (fun (e : Nat) => x.FC e) (fun (i e : Nat) => x.iO i e) (fun (i e : Nat) => x.iA i e) (fun (i e : Nat) => x.iB i e) (fun (e : Nat) => x.uP e) (fun (e : Nat) => x.uL e) fun (e : Nat) => x.uD e) = lE (Cf.mk x.W x.L x.C x.T x.D x.H x.B x.A x.P x.nP x.rc x.nU x.cu (fun (e : Nat) => x.lenP e) (fun (e : Nat) => x.FC e) (fun (i e : Nat) => x.iO i e) (fun (i e : Nat) => x.iA i e) (fun (i e : Nat) => x.iB i e) (fun (e : Nat) => x.uP e) (fun (e : Nat) => x.uL e) fun (e : Nat) => x.uD e))
    (V.need (lB (Cf.mk x.W x.L x.C x.T x.D x.H x.B x.A x.P x.nP x.rc x.nU x.cu (fun (e : Nat) => x.lenP e) (fun (e : Nat) => x.FC e) (fun (i e : Nat) => x.iO i e) (fun (i e : Nat) => x.iA i e) (fun (i e : Nat) => x.iB i e) (fun (e : Nat) => x.uP e) (fun (e : Nat) => x.uL e) fun (e : Nat) => x.uD e) = lB (Cf.mk x.W x.L x.C x.T x.D x.H x.B x.A x.P x.nP x.rc x.nU x.cu (fun (e : Nat) => x.lenP e) (fun (e : Nat) => x.FC e) (fun (i e : Nat) => x.iO i e) (fun (i e : Nat) => x.iA i e) (fun (i e : Nat) => x.iB i e) (fun (e : Nat) => x.uP e) (fun (e : Nat) => x.uL e) fun (e : Nat) => x.uD e))
    (V.need (lQ (Cf.mk x.W x.L x.C x.T x.D x.H x.B x.A x.P x.nP x.rc x.nU x.cu (fun (e : Nat) => x.lenP e) (fun (e : Nat) => x.FC e) (fun (i e : Nat) => x.iO i e) (fun (i e : Nat) => x.iA i e) (fun (i e : Nat) => x.iB i e) (fun (e : Nat) => x.uP e) (fun (e : Nat) => x.uL e) fun (e : Nat) => x.uD e) = lQ (Cf.mk x.W x.L x.C x.T x.D x.H x.B x.A x.P x.nP x.rc x.nU x.cu (fun (e : Nat) => x.lenP e) (fun (e : Nat) => x.FC e) (fun (i e : Nat) => x.iO i e) (fun (i e : Nat) => x.iA i e) (fun (i e : Nat) => x.iB i e) (fun (e : Nat) => x.uP e) (fun (e : Nat) => x.uL e) fun (e : Nat) => x.uD e))
    (V.need (lT (Cf.mk x.W x.L x.C x.T x.D x.H x.B x.A x.P x.nP x.rc x.nU x.cu (fun (e : Nat) => x.lenP e) (fun (e : Nat) => x.FC e) (fun (i e : Nat) => x.iO i e) (fun (i e : Nat) => x.iA i e) (fun (i e : Nat) => x.iB i e) (fun (e : Nat) => x.uP e) (fun (e : Nat) => x.uL e) fun (e : Nat) => x.uD e) = lT (Cf.mk x.W x.L x.C x.T x.D x.H x.B x.A x.P x.nP x.rc x.nU x.cu (fun (e : Nat) => x.lenP e) (fun (e : Nat) => x.FC e) (fun (i e : Nat) => x.iO i e) (fun (i e : Nat) => x.iA i e) (fun (i e : Nat) => x.iB i e) (fun (e : Nat) => x.uP e) (fun (e : Nat) => x.uL e) fun (e : Nat) => x.uD e))
    (V.need (w = w)
    (V.need (v = v)
    (V.need (w < Int.ofNat 0 ∨ x.W ≤ w ∨ v < Int.ofNat 0 ∨ x.L ≤ v)
    (nN [(40, .lt2 0 1 0 1)]
    (V.br (decide (w ≥ Int.ofNat 0))
    (V.br (decide (w < x.W)) V.ok
    (nN [(19, .lt2 0 1 0 1)]
    (V.need (x.W = x.W)
    (V.need (x.L = x.L)
    (V.need (x.C = x.C)
    (V.need (x.T = x.T)
    (V.need (x.D = x.D)
    (V.need (x.H = x.H)
    (V.need (lS (Cf.mk x.W x.L x.C x.T x.D x.H x.B x.A x.P x.nP x.rc x.nU x.cu (fun (e : Nat) => x.lenP e) (fun (e : Nat) => x.FC e) (fun (i e : Nat) => x.iO i e) (fun (i e : Nat) => x.iA i e) (fun (i e : Nat) => x.iB i e) (fun (e : Nat) => x.uP e) (fun (e : Nat) => x.uL e) fun (e : Nat) => x.uD e) = lS (Cf.mk x.W x.L x.C x.T x.D x.H x.B x.A x.P x.nP x.rc x.nU x.cu (fun (e : Nat) => x.lenP e) (fun (e : Nat) => x.FC e) (fun (i e : Nat) => x.iO i e) (fun (i e : Nat) => x.iA i e) (fun (i e : Nat) => x.iB i e) (fun (e : Nat) => x.uP e) (fun (e : Nat) => x.uL e) fun (e : Nat) => x.uD e))
    (V.need (lE (Cf.mk x.W x.L x.C x.T x.D x.H x.B x.A x.P x.nP x.rc x.nU x.cu (fun (e : Nat) => x.lenP e) (fun (e : Nat) => x.FC e) (fun (i e : Nat) => x.iO i e) (fun (i e : Nat) => x.iA i e) (fun (i e : Nat) => x.iB i e) (fun (e : Nat) => x.uP e) (fun (e : Nat) => x.uL e) fun (e : Nat) => x.uD e) = lE (Cf.mk x.W x.L x.C x.T x.D x.H x.B x.A x.P x.nP x.rc x.nU x.cu (fun (e : Nat) => x.lenP e) (fun (e : Nat) => x.FC e) (fun (i e : Nat) => x.iO i e) (fun (i e : Nat) => x.iA i e) (fun (i e : Nat) => x.iB i e) (fun (e : Nat) => x.uP e) (fun (e : Nat) => x.uL e) fun (e : Nat) => x.uD e))
    (V.need (lB (Cf.mk x.W x.L x.C x.T x.D x.H x.B x.A x.P x.nP x.rc x.nU x.cu (fun (e : Nat) => x.lenP e) (fun (e : Nat) => x.FC e) (fun (i e : Nat) => x.iO i e) (fun (i e : Nat) => x.iA i e) (fun (i e : Nat) => x.iB i e) (fun (e : Nat) => x.uP e) (fun (e : Nat) => x.uL e) fun (e : Nat) => x.uD e) = lB (Cf.mk x.W x.L x.C x.T x.D x.H x.B x.A x.P x.nP x.rc x.nU x.cu (fun (e : Nat) => x.lenP e) (fun (e : Nat) => x.FC e) (fun (i e : Nat) => x.iO i e) (fun (i e : Nat) => x.iA i e) (fun (i e : Nat) => x.iB i e) (fun (e : Nat) => x.uP e) (fun (e : Nat) => x.uL e) fun (e : Nat) => x.uD e))
    (V.need (lQ (Cf.mk x.W x.L x.C x.T x.D x.H x.B x.A x.P x.nP x.rc x.nU x.cu (fun (e : Nat) => x.lenP e) (fun (e : Nat) => x.FC e) (fun (i e : Nat) => x.iO i e) (fun (i e : Nat) => x.iA i e) (fun (i e : Nat) => x.iB i e) (fun (e : Nat) => x.uP e) (fun (e : Nat) => x.uL e) fun (e : Nat) => x.uD e) = lQ (Cf.mk x.W x.L x.C x.T x.D x.H x.B x.A x.P x.nP x.rc x.nU x.cu (fun (e : Nat) => x.lenP e) (fun (e : Nat) => x.FC e) (fun (i e : Nat) => x.iO i e) (fun (i e : Nat) => x.iA i e) (fun (i e : Nat) => x.iB i e) (fun (e : Nat) => x.uP e) (fun (e : Nat) => x.uL e) fun (e : Nat) => x.uD e))
    (V.need (lT (Cf.mk x.W x.L x.C x.T x.D x.H x.B x.A x.P x.nP x.rc x.nU x.cu (fun (e : Nat) => x.lenP e) (fun (e : Nat) => x.FC e) (fun (i e : Nat) => x.iO i e) (fun (i e : Nat) => x.iA i e) (fun (i e : Nat) => x.iB i e) (fun (e : Nat) => x.uP e) (fun (e : Nat) => x.uL e) fun (e : Nat) => x.uD e) = lT (Cf.mk x.W x.L x.C x.T x.D x.H x.B x.A x.P x.nP x.rc x.nU x.cu (fun (e : Nat) => x.lenP e) (fun (e : Nat) => x.FC e) (fun (i e : Nat) => x.iO i e) (fun (i e : Nat) => x.iA i e) (fun (i e : Nat) => x.iB i e) (fun (e : Nat) => x.uP e) (fun (e : Nat) => x.uL e) fun (e : Nat) => x.uD e))
    (V.need (w = w)
    (V.need (w < Int.ofNat 0 ∨ x.W ≤ w)
    (nN [(6, .lt2 0 1 0 1)] V.ok))))))))))))))))
    (nN [(19, .lt2 0 1 0 1)]
    (V.need (x.W = x.W)
    (V.need (x.L = x.L)
    (V.need (x.C = x.C)
    (V.need (x.T = x.T)
    (V.need (x.D = x.D)
    (V.need (x.H = x.H)
    (V.need (lS (Cf.mk x.W x.L x.C x.T x.D x.H x.B x.A x.P x.nP x.rc x.nU x.cu (fun (e : Nat) => x.lenP e) (fun (e : Nat) => x.FC e) (fun (i e : Nat) => x.iO i e) (fun (i e : Nat) => x.iA i e) (fun (i e : Nat) => x.iB i e) (fun (e : Nat) => x.uP e) (fun (e : Nat) => x.uL e) fun (e : Nat) => x.uD e) = lS (Cf.mk x.W x.L x.C x.T x.D x.H x.B x.A x.P x.nP x.rc x.nU x.cu (fun (e : Nat) => x.lenP e) (fun (e : Nat) => x.FC e) (fun (i e : Nat) => x.iO i e) (fun (i e : Nat) => x.iA i e) (fun (i e : Nat) => x.iB i e) (fun (e : Nat) => x.uP e) (fun (e : Nat) => x.uL e) fun (e : Nat) => x.uD e))
    (V.need (lE (Cf.mk x.W x.L x.C x.T x.D x.H x.B x.A x.P x.nP x.rc x.nU x.cu (fun (e : Nat) => x.lenP e) (fun (e : Nat) => x.FC e) (fun (i e : Nat) => x.iO i e) (fun (i e : Nat) => x.iA i e) (fun (i e : Nat) => x.iB i e) (fun (e : Nat) => x.uP e) (fun (e : Nat) => x.uL e) fun (e : Nat) => x.uD e) = lE (Cf.mk x.W x.L x.C x.T x.D x.H x.B x.A x.P x.nP x.rc x.nU x.cu (fun (e : Nat) => x.lenP e) (fun (e : Nat) => x.FC e) (fun (i e : Nat) => x.iO i e) (fun (i e : Nat) => x.iA i e) (fun (i e : Nat) => x.iB i e) (fun (e : Nat) => x.uP e) (fun (e : Nat) => x.uL e) fun (e : Nat) => x.uD e))
    (V.need (lB (Cf.mk x.W x.L x.C x.T x.D x.H x.B x.A x.P x.nP x.rc x.nU x.cu (fun (e : Nat) => x.lenP e) (fun (e : Nat) => x.FC e) (fun (i e : Nat) => x.iO i e) (fun (i e : Nat) => x.iA i e) (fun (i e : Nat) => x.iB i e) (fun (e : Nat) => x.uP e) (fun (e : Nat) => x.uL e) fun (e : Nat) => x.uD e) = lB (Cf.mk x.W x.L x.C x.T x.D x.H x.B x.A x.P x.nP x.rc x.nU x.cu (fun (e : Nat) => x.lenP e) (fun (e : Nat) => x.FC e) (fun (i e : Nat) => x.iO i e) (fun (i e : Nat) => x.iA i e) (fun (i e : Nat) => x.iB i e) (fun (e : Nat) => x.uP e) (fun (e : Nat) => x.uL e) fun (e : Nat) => x.uD e))
    (V.need (lQ (Cf.mk x.W x.L x.C x.T x.D x.H x.B x.A x.P x.nP x.rc x.nU x.cu (fun (e : Nat) => x.lenP e) (fun (e : Nat) => x.FC e) (fun (i e : Nat) => x.iO i e) (fun (i e : Nat) => x.iA i e) (fun (i e : Nat) => x.iB i e) (fun (e : Nat) => x.uP e) (fun (e : Nat) => x.uL e) fun (e : Nat) => x.uD e) = lQ (Cf.mk x.W x.L x.C x.T x.D x.H x.B x.A x.P x.nP x.rc x.nU x.cu (fun (e : Nat) => x.lenP e) (fun (e : Nat) => x.FC e) (fun (i e : Nat) => x.iO i e) (fun (i e : Nat) => x.iA i e) (fun (i e : Nat) => x.iB i e) (fun (e : Nat) => x.uP e) (fun (e : Nat) => x.uL e) fun (e : Nat) => x.uD e))
    (V.need (lT (Cf.mk x.W x.L x.C x.T x.D x.H x.B x.A x.P x.nP x.rc x.nU x.cu (fun (e : Nat) => x.lenP e) (fun (e : Nat) => x.FC e) (fun (i e : Nat) => x.iO i e) (fun (i e : Nat) => x.iA i e) (fun (i e : Nat) => x.iB i e) (fun (e : Nat) => x.uP e) (fun (e : Nat) => x.uL e) fun (e : Nat) => x.uD e) = lT (Cf.mk x.W x.L x.C x.T x.D x.H x.B x.A x.P x.nP x.rc x.nU x.cu (fun (e : Nat) => x.lenP e) (fun (e : Nat) => x.FC e) (fun (i e : Nat) => x.iO i e) (fun (i e : Nat) => x.iA i e) (fun (i e : Nat) => x.iB i e) (fun (e : Nat) => x.uP e) (fun (e : Nat) => x.uL e) fun (e : Nat) => x.uD e))
    (V.need (w = w)
    (V.need (w < Int.ofNat 0 ∨ x.W ≤ w)
    (nN [(6, .lt2 0 1 0 1)] V.ok)))))))))))))))))))))))))))))))))
    (nN [(19, .lt2 0 1 0 1)]
    (V.need (x.W = x.W)
    (V.need (x.L = x.L)
    (V.need (x.C = x.C)
    (V.need (x.T = x.T)
    (V.need (x.D = x.D)
    (V.need (x.H = x.H)
    (V.need (lS (Cf.mk x.W x.L x.C x.T x.D x.H x.B x.A x.P x.nP x.rc x.nU x.cu (fun (e : Nat) => x.lenP e) (fun (e : Nat) => x.FC e) (fun (i e : Nat) => x.iO i e) (fun (i e : Nat) => x.iA i e) (fun (i e : Nat) => x.iB i e) (fun (e : Nat) => x.uP e) (fun (e : Nat) => x.uL e) fun (e : Nat) => x.uD e) = lS (Cf.mk x.W x.L x.C x.T x.D x.H x.B x.A x.P x.nP x.rc x.nU x.cu (fun (e : Nat) => x.lenP e) (fun (e : Nat) => x.FC e) (fun (i e : Nat) => x.iO i e) (fun (i e : Nat) => x.iA i e) (fun (i e : Nat) => x.iB i e) (fun (e : Nat) => x.uP e) (fun (e : Nat) => x.uL e) fun (e : Nat) => x.uD e))
    (V.need (lE (Cf.mk x.W x.L x.C x.T x.D x.H x.B x.A x.P x.nP x.rc x.nU x.cu (fun (e : Nat) => x.lenP e) (fun (e : Nat) => x.FC e) (fun (i e : Nat) => x.iO i e) (fun (i e : Nat) => x.iA i e) (fun (i e : Nat) => x.iB i e) (fun (e : Nat) => x.uP e) (fun (e : Nat) => x.uL e) fun (e : Nat) => x.uD e) = lE (Cf.mk x.W x.L x.C x.T x.D x.H x.B x.A x.P x.nP x.rc x.nU x.cu (fun (e : Nat) => x.lenP e) (fun (e : Nat) => x.FC e) (fun (i e : Nat) => x.iO i e) (fun (i e : Nat) => x.iA i e) (fun (i e : Nat) => x.iB i e) (fun (e : Nat) => x.uP e) (fun (e : Nat) => x.uL e) fun (e : Nat) => x.uD e))
    (V.need (lB (Cf.mk x.W x.L x.C x.T x.D x.H x.B x.A x.P x.nP x.rc x.nU x.cu (fun (e : Nat) => x.lenP e) (fun (e : Nat) => x.FC e) (fun (i e : Nat) => x.iO i e) (fun (i e : Nat) => x.iA i e) (fun (i e : Nat) => x.iB i e) (fun (e : Nat) => x.uP e) (fun (e : Nat) => x.uL e) fun (e : Nat) => x.uD e) = lB (Cf.mk x.W x.L x.C x.T x.D x.H x.B x.A x.P x.nP x.rc x.nU x.cu (fun (e : Nat) => x.lenP e) (fun (e : Nat) => x.FC e) (fun (i e : Nat) => x.iO i e) (fun (i e : Nat) => x.iA i e) (fun (i e : Nat) => x.iB i e) (fun (e : Nat) => x.uP e) (fun (e : Nat) => x.uL e) fun (e : Nat) => x.uD e))
    (V.need (lQ (Cf.mk x.W x.L x.C x.T x.D x.H x.B x.A x.P x.nP x.rc x.nU x.cu (fun (e : Nat) => x.lenP e) (fun (e : Nat) => x.FC e) (fun (i e : Nat) => x.iO i e) (fun (i e : Nat) => x.iA i e) (fun (i e : Nat) => x.iB i e) (fun (e : Nat) => x.uP e) (fun (e : Nat) => x.uL e) fun (e : Nat) => x.uD e) = lQ (Cf.mk x.W x.L x.C x.T x.D x.H x.B x.A x.P x.nP x.rc x.nU x.cu (fun (e : Nat) => x.lenP e) (fun (e : Nat) => x.FC e) (fun (i e : Nat) => x.iO i e) (fun (i e : Nat) => x.iA i e) (fun (i e : Nat) => x.iB i e) (fun (e : Nat) => x.uP e) (fun (e : Nat) => x.uL e) fun (e : Nat) => x.uD e))
    (V.need (lT (Cf.mk x.W x.L x.C x.T x.D x.H x.B x.A x.P x.nP x.rc x.nU x.cu (fun (e : Nat) => x.lenP e) (fun (e : Nat) => x.FC e) (fun (i e : Nat) => x.iO i e) (fun (i e : Nat) => x.iA i e) (fun (i e : Nat) => x.iB i e) (fun (e : Nat) => x.uP e) (fun (e : Nat) => x.uL e) fun (e : Nat) => x.uD e) = lT (Cf.mk x.W x.L x.C x.T x.D x.H x.B x.A x.P x.nP x.rc x.nU x.cu (fun (e : Nat) => x.lenP e) (fun (e : Nat) => x.FC e) (fun (i e : Nat) => x.iO i e) (fun (i e : Nat) => x.iA i e) (fun (i e : Nat) => x.iB i e) (fun (e : Nat) => x.uP e) (fun (e : Nat) => x.uL e) fun (e : Nat) => x.uD e))
    (V.need (w = w)
    (V.need (v = v)
    (V.need (w < Int.ofNat 0 ∨ x.W ≤ w ∨ v < Int.ofNat 0 ∨ x.L ≤ v)
    (nN [(40, .lt2 0 1 0 1)]
    (V.br (decide (w ≥ Int.ofNat 0))
    (V.br (decide (w < x.W)) V.ok
    (nN [(19, .lt2 0 1 0 1)]
    (V.need (x.W = x.W)
    (V.need (x.L = x.L)
    (V.need (x.C = x.C)
    (V.need (x.T = x.T)
    (V.need (x.D = x.D)
    (V.need (x.H = x.H)
    (V.need (lS (Cf.mk x.W x.L x.C x.T x.D x.H x.B x.A x.P x.nP x.rc x.nU x.cu (fun (e : Nat) => x.lenP e) (fun (e : Nat) => x.FC e) (fun (i e : Nat) => x.iO i e) (fun (i e : Nat) => x.iA i e) (fun (i e : Nat) => x.iB i e) (fun (e : Nat) => x.uP e) (fun (e : Nat) => x.uL e) fun (e : Nat) => x.uD e) = lS (Cf.mk x.W x.L x.C x.T x.D x.H x.B x.A x.P x.nP x.rc x.nU x.cu (fun (e : Nat) => x.lenP e) (fun (e : Nat) => x.FC e) (fun (i e : Nat) => x.iO i e) (fun (i e : Nat) => x.iA i e) (fun (i e : Nat) => x.iB i e) (fun (e : Nat) => x.uP e) (fun (e : Nat) => x.uL e) fun (e : Nat) => x.uD e))
    (V.need (lE (Cf.mk x.W x.L x.C x.T x.D x.H x.B x.A x.P x.nP x.rc x.nU x.cu (fun (e : Nat) => x.lenP e) (fun (e : Nat) => x.FC e) (fun (i e : Nat) => x.iO i e) (fun (i e : Nat) => x.iA i e) (fun (i e : Nat) => x.iB i e) (fun (e : Nat) => x.uP e) (fun (e : Nat) => x.uL e) fun (e : Nat) => x.uD e) = lE (Cf.mk x.W x.L x.C x.T x.D x.H x.B x.A x.P x.nP x.rc x.nU x.cu (fun (e : Nat) => x.lenP e) (fun (e : Nat) => x.FC e) (fun (i e : Nat) => x.iO i e) (fun (i e : Nat) => x.iA i e) (fun (i e : Nat) => x.iB i e) (fun (e : Nat) => x.uP e) (fun (e : Nat) => x.uL e) fun (e : Nat) => x.uD e))
    (V.need (lB (Cf.mk x.W x.L x.C x.T x.D x.H x.B x.A x.P x.nP x.rc x.nU x.cu (fun (e : Nat) => x.lenP e) (fun (e : Nat) => x.FC e) (fun (i e : Nat) => x.iO i e) (fun (i e : Nat) => x.iA i e) (fun (i e : Nat) => x.iB i e) (fun (e : Nat) => x.uP e) (fun (e : Nat) => x.uL e) fun (e : Nat) => x.uD e) = lB (Cf.mk x.W x.L x.C x.T x.D x.H x.B x.A x.P x.nP x.rc x.nU x.cu (fun (e : Nat) => x.lenP e) (fun (e : Nat) => x.FC e) (fun (i e : Nat) => x.iO i e) (fun (i e : Nat) => x.iA i e) (fun (i e : Nat) => x.iB i e) (fun (e : Nat) => x.uP e) (fun (e : Nat) => x.uL e) fun (e : Nat) => x.uD e))
    (V.need (lQ (Cf.mk x.W x.L x.C x.T x.D x.H x.B x.A x.P x.nP x.rc x.nU x.cu (fun (e : Nat) => x.lenP e) (fun (e : Nat) => x.FC e) (fun (i e : Nat) => x.iO i e) (fun (i e : Nat) => x.iA i e) (fun (i e : Nat) => x.iB i e) (fun (e : Nat) => x.uP e) (fun (e : Nat) => x.uL e) fun (e : Nat) => x.uD e) = lQ (Cf.mk x.W x.L x.C x.T x.D x.H x.B x.A x.P x.nP x.rc x.nU x.cu (fun (e : Nat) => x.lenP e) (fun (e : Nat) => x.FC e) (fun (i e : Nat) => x.iO i e) (fun (i e : Nat) => x.iA i e) (fun (i e : Nat) => x.iB i e) (fun (e : Nat) => x.uP e) (fun (e : Nat) => x.uL e) fun (e : Nat) => x.uD e))
    (V.need (lT (Cf.mk x.W x.L x.C x.T x.D x.H x.B x.A x.P x.nP x.rc x.nU x.cu (fun (e : Nat) => x.lenP e) (fun (e : Nat) => x.FC e) (fun (i e : Nat) => x.iO i e) (fun (i e : Nat) => x.iA i e) (fun (i e : Nat) => x.iB i e) (fun (e : Nat) => x.uP e) (fun (e : Nat) => x.uL e) fun (e : Nat) => x.uD e) = lT (Cf.mk x.W x.L x.C x.T x.D x.H x.B x.A x.P x.nP x.rc x.nU x.cu (fun (e : Nat) => x.lenP e) (fun (e : Nat) => x.FC e) (fun (i e : Nat) => x.iO i e) (fun (i e : Nat) => x.iA i e) (fun (i e : Nat) => x.iB i e) (fun (e : Nat) => x.uP e) (fun (e : Nat) => x.uL e) fun (e : Nat) => x.uD e))
    (V.need (w = w)
    (V.need (w < Int.ofNat 0 ∨ x.W ≤ w)
    (nN [(6, .lt2 0 1 0 1)] V.ok))))))))))))))))
    (nN [(19, .lt2 0 1 0 1)]
    (V.need (x.W = x.W)
    (V.need (x.L = x.L)
    (V.need (x.C = x.C)
    (V.need (x.T = x.T)
    (V.need (x.D = x.D)
    (V.need (x.H = x.H)
    (V.need (lS (Cf.mk x.W x.L x.C x.T x.D x.H x.B x.A x.P x.nP x.rc x.nU x.cu (fun (e : Nat) => x.lenP e) (fun (e : Nat) => x.FC e) (fun (i e : Nat) => x.iO i e) (fun (i e : Nat) => x.iA i e) (fun (i e : Nat) => x.iB i e) (fun (e : Nat) => x.uP e) (fun (e : Nat) => x.uL e) fun (e : Nat) => x.uD e) = lS (Cf.mk x.W x.L x.C x.T x.D x.H x.B x.A x.P x.nP x.rc x.nU x.cu (fun (e : Nat) => x.lenP e) (fun (e : Nat) => x.FC e) (fun (i e : Nat) => x.iO i e) (fun (i e : Nat) => x.iA i e) (fun (i e : Nat) => x.iB i e) (fun (e : Nat) => x.uP e) (fun (e : Nat) => x.uL e) fun (e : Nat) => x.uD e))
    (V.need (lE (Cf.mk x.W x.L x.C x.T x.D x.H x.B x.A x.P x.nP x.rc x.nU x.cu (fun (e : Nat) => x.lenP e) (fun (e : Nat) => x.FC e) (fun (i e : Nat) => x.iO i e) (fun (i e : Nat) => x.iA i e) (fun (i e : Nat) => x.iB i e) (fun (e : Nat) => x.uP e) (fun (e : Nat) => x.uL e) fun (e : Nat) => x.uD e) = lE (Cf.mk x.W x.L x.C x.T x.D x.H x.B x.A x.P x.nP x.rc x.nU x.cu (fun (e : Nat) => x.lenP e) (fun (e : Nat) => x.FC e) (fun (i e : Nat) => x.iO i e) (fun (i e : Nat) => x.iA i e) (fun (i e : Nat) => x.iB i e) (fun (e : Nat) => x.uP e) (fun (e : Nat) => x.uL e) fun (e : Nat) => x.uD e))
    (V.need (lB (Cf.mk x.W x.L x.C x.T x.D x.H x.B x.A x.P x.nP x.rc x.nU x.cu (fun (e : Nat) => x.lenP e) (fun (e : Nat) => x.FC e) (fun (i e : Nat) => x.iO i e) (fun (i e : Nat) => x.iA i e) (fun (i e : Nat) => x.iB i e) (fun (e : Nat) => x.uP e) (fun (e : Nat) => x.uL e) fun (e : Nat) => x.uD e) = lB (Cf.mk x.W x.L x.C x.T x.D x.H x.B x.A x.P x.nP x.rc x.nU x.cu (fun (e : Nat) => x.lenP e) (fun (e : Nat) => x.FC e) (fun (i e : Nat) => x.iO i e) (fun (i e : Nat) => x.iA i e) (fun (i e : Nat) => x.iB i e) (fun (e : Nat) => x.uP e) (fun (e : Nat) => x.uL e) fun (e : Nat) => x.uD e))
    (V.need (lQ (Cf.mk x.W x.L x.C x.T x.D x.H x.B x.A x.P x.nP x.rc x.nU x.cu (fun (e : Nat) => x.lenP e) (fun (e : Nat) => x.FC e) (fun (i e : Nat) => x.iO i e) (fun (i e : Nat) => x.iA i e) (fun (i e : Nat) => x.iB i e) (fun (e : Nat) => x.uP e) (fun (e : Nat) => x.uL e) fun (e : Nat) => x.uD e) = lQ (Cf.mk x.W x.L x.C x.T x.D x.H x.B x.A x.P x.nP x.rc x.nU x.cu (fun (e : Nat) => x.lenP e) (fun (e : Nat) => x.FC e) (fun (i e : Nat) => x.iO i e) (fun (i e : Nat) => x.iA i e) (fun (i e : Nat) => x.iB i e) (fun (e : Nat) => x.uP e) (fun (e : Nat) => x.uL e) fun (e : Nat) => x.uD e))
    (V.need (lT (Cf.mk x.W x.L x.C x.T x.D x.H x.B x.A x.P x.nP x.rc x.nU x.cu (fun (e : Nat) => x.lenP e) (fun (e : Nat) => x.FC e) (fun (i e : Nat) => x.iO i e) (fun (i e : Nat) => x.iA i e) (fun (i e : Nat) => x.iB i e) (fun (e : Nat) => x.uP e) (fun (e : Nat) => x.uL e) fun (e : Nat) => x.uD e) = lT (Cf.mk x.W x.L x.C x.T x.D x.H x.B x.A x.P x.nP x.rc x.nU x.cu (fun (e : Nat) => x.lenP e) (fun (e : Nat) => x.FC e) (fun (i e : Nat) => x.iO i e) (fun (i e : Nat) => x.iA i e) (fun (i e : Nat) => x.iB i e) (fun (e : Nat) => x.uP e) (fun (e : Nat) => x.uL e) fun (e : Nat) => x.uD e))
    (V.need (w = w)
    (V.need (w < Int.ofNat 0 ∨ x.W ≤ w)
    (nN [(6, .lt2 0 1 0 1)] V.ok)))))))))))))))))))))))))))))))))
    (nN [(19, .lt2 0 1 0 1)]
    (V.need (x.W = x.W)
    (V.need (x.L = x.L)
    (V.need (x.C = x.C)
    (V.need (x.T = x.T)
    (V.need (x.D = x.D)
    (V.need (x.H = x.H)
    (V.need (lS (Cf.mk x.W x.L x.C x.T x.D x.H x.B x.A x.P x.nP x.rc x.nU x.cu (fun (e : Nat) => x.lenP e) (fun (e : Nat) => x.FC e) (fun (i e : Nat) => x.iO i e) (fun (i e : Nat) => x.iA i e) (fun (i e : Nat) => x.iB i e) (fun (e : Nat) => x.uP e) (fun (e : Nat) => x.uL e) fun (e : Nat) => x.uD e) = lS (Cf.mk x.W x.L x.C x.T x.D x.H x.B x.A x.P x.nP x.rc x.nU x.cu (fun (e : Nat) => x.lenP e) (fun (e : Nat) => x.FC e) (fun (i e : Nat) => x.iO i e) (fun (i e : Nat) => x.iA i e) (fun (i e : Nat) => x.iB i e) (fun (e : Nat) => x.uP e) (fun (e : Nat) => x.uL e) fun (e : Nat) => x.uD e))
    (V.need (lE (Cf.mk x.W x.L x.C x.T x.D x.H x.B x.A x.P x.nP x.rc x.nU x.cu (fun (e : Nat) => x.lenP e) (fun (e : Nat) => x.FC e) (fun (i e : Nat) => x.iO i e) (fun (i e : Nat) => x.iA i e) (fun (i e : Nat) => x.iB i e) (fun (e : Nat) => x.uP e) (fun (e : Nat) => x.uL e) fun (e : Nat) => x.uD e) = lE (Cf.mk x.W x.L x.C x.T x.D x.H x.B x.A x.P x.nP x.rc x.nU x.cu (fun (e : Nat) => x.lenP e) (fun (e : Nat) => x.FC e) (fun (i e : Nat) => x.iO i e) (fun (i e : Nat) => x.iA i e) (fun (i e : Nat) => x.iB i e) (fun (e : Nat) => x.uP e) (fun (e : Nat) => x.uL e) fun (e : Nat) => x.uD e))
    (V.need (lB (Cf.mk x.W x.L x.C x.T x.D x.H x.B x.A x.P x.nP x.rc x.nU x.cu (fun (e : Nat) => x.lenP e) (fun (e : Nat) => x.FC e) (fun (i e : Nat) => x.iO i e) (fun (i e : Nat) => x.iA i e) (fun (i e : Nat) => x.iB i e) (fun (e : Nat) => x.uP e) (fun (e : Nat) => x.uL e) fun (e : Nat) => x.uD e) = lB (Cf.mk x.W x.L x.C x.T x.D x.H x.B x.A x.P x.nP x.rc x.nU x.cu (fun (e : Nat) => x.lenP e) (fun (e : Nat) => x.FC e) (fun (i e : Nat) => x.iO i e) (fun (i e : Nat) => x.iA i e) (fun (i e : Nat) => x.iB i e) (fun (e : Nat) => x.uP e) (fun (e : Nat) => x.uL e) fun (e : Nat) => x.uD e))
    (V.need (lQ (Cf.mk x.W x.L x.C x.T x.D x.H x.B x.A x.P x.nP x.rc x.nU x.cu (fun (e : Nat) => x.lenP e) (fun (e : Nat) => x.FC e) (fun (i e : Nat) => x.iO i e) (fun (i e : Nat) => x.iA i e) (fun (i e : Nat) => x.iB i e) (fun (e : Nat) => x.uP e) (fun (e : Nat) => x.uL e) fun (e : Nat) => x.uD e) = lQ (Cf.mk x.W x.L x.C x.T x.D x.H x.B x.A x.P x.nP x.rc x.nU x.cu (fun (e : Nat) => x.lenP e) (fun (e : Nat) => x.FC e) (fun (i e : Nat) => x.iO i e) (fun (i e : Nat) => x.iA i e) (fun (i e : Nat) => x.iB i e) (fun (e : Nat) => x.uP e) (fun (e : Nat) => x.uL e) fun (e : Nat) => x.uD e))
    (V.need (lT (Cf.mk x.W x.L x.C x.T x.D x.H x.B x.A x.P x.nP x.rc x.nU x.cu (fun (e : Nat) => x.lenP e) (fun (e : Nat) => x.FC e) (fun (i e : Nat) => x.iO i e) (fun (i e : Nat) => x.iA i e) (fun (i e : Nat) => x.iB i e) (fun (e : Nat) => x.uP e) (fun (e : Nat) => x.uL e) fun (e : Nat) => x.uD e) = lT (Cf.mk x.W x.L x.C x.T x.D x.H x.B x.A x.P x.nP x.rc x.nU x.cu (fun (e : Nat) => x.lenP e) (fun (e : Nat) => x.FC e) (fun (i e : Nat) => x.iO i e) (fun (i e : Nat) => x.iA i e) (fun (i e : Nat) => x.iB i e) (fun (e : Nat) => x.uP e) (fun (e : Nat) => x.uL e) fun (e : Nat) => x.uD e))
    (V.need (w = w)
    (V.need (v = v)
    (V.need (w < Int.ofNat 0 ∨ x.W ≤ w ∨ v < Int.ofNat 0 ∨ x.L ≤ v)
    (nN [(40, .lt2 0 1 0 1)]
    (V.br (decide (w ≥ Int.ofNat 0))
    (V.br (decide (w < x.W)) V.ok
    (nN [(19, .lt2 0 1 0 1)]
    (V.need (x.W = x.W)
    (V.need (x.L = x.L)
    (V.need (x.C = x.C)
    (V.need (x.T = x.T)
    (V.need (x.D = x.D)
    (V.need (x.H = x.H)
    (V.need (lS (Cf.mk x.W x.L x.C x.T x.D x.H x.B x.A x.P x.nP x.rc x.nU x.cu (fun (e : Nat) => x.lenP e) (fun (e : Nat) => x.FC e) (fun (i e : Nat) => x.iO i e) (fun (i e : Nat) => x.iA i e) (fun (i e : Nat) => x.iB i e) (fun (e : Nat) => x.uP e) (fun (e : Nat) => x.uL e) fun (e : Nat) => x.uD e) = lS (Cf.mk x.W x.L x.C x.T x.D x.H x.B x.A x.P x.nP x.rc x.nU x.cu (fun (e : Nat) => x.lenP e) (fun (e : Nat) => x.FC e) (fun (i e : Nat) => x.iO i e) (fun (i e : Nat) => x.iA i e) (fun (i e : Nat) => x.iB i e) (fun (e : Nat) => x.uP e) (fun (e : Nat) => x.uL e) fun (e : Nat) => x.uD e))
    (V.need (lE (Cf.mk x.W x.L x.C x.T x.D x.H x.B x.A x.P x.nP x.rc x.nU x.cu (fun (e : Nat) => x.lenP e) (fun (e : Nat) => x.FC e) (fun (i e : Nat) => x.iO i e) (fun (i e : Nat) => x.iA i e) (fun (i e : Nat) => x.iB i e) (fun (e : Nat) => x.uP e) (fun (e : Nat) => x.uL e) fun (e : Nat) => x.uD e) = lE (Cf.mk x.W x.L x.C x.T x.D x.H x.B x.A x.P x.nP x.rc x.nU x.cu (fun (e : Nat) => x.lenP e) (fun (e : Nat) => x.FC e) (fun (i e : Nat) => x.iO i e) (fun (i e : Nat) => x.iA i e) (fun (i e : Nat) => x.iB i e) (fun (e : Nat) => x.uP e) (fun (e : Nat) => x.uL e) fun (e : Nat) => x.uD e))
    (V.need (lB (Cf.mk x.W x.L x.C x.T x.D x.H x.B x.A x.P x.nP x.rc x.nU x.cu (fun (e : Nat) => x.lenP e) (fun (e : Nat) => x.FC e) (fun (i e : Nat) => x.iO i e) (fun (i e : Nat) => x.iA i e) (fun (i e : Nat) => x.iB i e) (fun (e : Nat) => x.uP e) (fun (e : Nat) => x.uL e) fun (e : Nat) => x.uD e) = lB (Cf.mk x.W x.L x.C x.T x.D x.H x.B x.A x.P x.nP x.rc x.nU x.cu (fun (e : Nat) => x.lenP e) (fun (e : Nat) => x.FC e) (fun (i e : Nat) => x.iO i e) (fun (i e : Nat) => x.iA i e) (fun (i e : Nat) => x.iB i e) (fun (e : Nat) => x.uP e) (fun (e : Nat) => x.uL e) fun (e : Nat) => x.uD e))
    (V.need (lQ (Cf.mk x.W x.L x.C x.T x.D x.H x.B x.A x.P x.nP x.rc x.nU x.cu (fun (e : Nat) => x.lenP e) (fun (e : Nat) => x.FC e) (fun (i e : Nat) => x.iO i e) (fun (i e : Nat) => x.iA i e) (fun (i e : Nat) => x.iB i e) (fun (e : Nat) => x.uP e) (fun (e : Nat) => x.uL e) fun (e : Nat) => x.uD e) = lQ (Cf.mk x.W x.L x.C x.T x.D x.H x.B x.A x.P x.nP x.rc x.nU x.cu (fun (e : Nat) => x.lenP e) (fun (e : Nat) => x.FC e) (fun (i e : Nat) => x.iO i e) (fun (i e : Nat) => x.iA i e) (fun (i e : Nat) => x.iB i e) (fun (e : Nat) => x.uP e) (fun (e : Nat) => x.uL e) fun (e : Nat) => x.uD e))
    (V.need (lT (Cf.mk x.W x.L x.C x.T x.D x.H x.B x.A x.P x.nP x.rc x.nU x.cu (fun (e : Nat) => x.lenP e) (fun (e : Nat) => x.FC e) (fun (i e : Nat) => x.iO i e) (fun (i e : Nat) => x.iA i e) (fun (i e : Nat) => x.iB i e) (fun (e : Nat) => x.uP e) (fun (e : Nat) => x.uL e) fun (e : Nat) => x.uD e) = lT (Cf.mk x.W x.L x.C x.T x.D x.H x.B x.A x.P x.nP x.rc x.nU x.cu (fun (e : Nat) => x.lenP e) (fun (e : Nat) => x.FC e) (fun (i e : Nat) => x.iO i e) (fun (i e : Nat) => x.iA i e) (fun (i e : Nat) => x.iB i e) (fun (e : Nat) => x.uP e) (fun (e : Nat) => x.uL e) fun (e : Nat) => x.uD e))
    (V.need (w = w)
    (V.need (w < Int.ofNat 0 ∨ x.W ≤ w)
    (nN [(6, .lt2 0 1 0 1)] V.ok))))))))))))))))
    (nN [(19, .lt2 0 1 0 1)]
    (V.need (x.W = x.W)
    (V.need (x.L = x.L)
    (V.need (x.C = x.C)
    (V.need (x.T = x.T)
    (V.need (x.D = x.D)
    (V.need (x.H = x.H)
    (V.need (lS (Cf.mk x.W x.L x.C x.T x.D x.H x.B x.A x.P x.nP x.rc x.nU x.cu (fun (e : Nat) => x.lenP e) (fun (e : Nat) => x.FC e) (fun (i e : Nat) => x.iO i e) (fun (i e : Nat) => x.iA i e) (fun (i e : Nat) => x.iB i e) (fun (e : Nat) => x.uP e) (fun (e : Nat) => x.uL e) fun (e : Nat) => x.uD e) = lS (Cf.mk x.W x.L x.C x.T x.D x.H x.B x.A x.P x.nP x.rc x.nU x.cu (fun (e : Nat) => x.lenP e) (fun (e : Nat) => x.FC e) (fun (i e : Nat) => x.iO i e) (fun (i e : Nat) => x.iA i e) (fun (i e : Nat) => x.iB i e) (fun (e : Nat) => x.uP e) (fun (e : Nat) => x.uL e) fun (e : Nat) => x.uD e))
    (V.need (lE (Cf.mk x.W x.L x.C x.T x.D x.H x.B x.A x.P x.nP x.rc x.nU x.cu (fun (e : Nat) => x.lenP e) (fun (e : Nat) => x.FC e) (fun (i e : Nat) => x.iO i e) (fun (i e : Nat) => x.iA i e) (fun (i e : Nat) => x.iB i e) (fun (e : Nat) => x.uP e) (fun (e : Nat) => x.uL e) fun (e : Nat) => x.uD e) = lE (Cf.mk x.W x.L x.C x.T x.D x.H x.B x.A x.P x.nP x.rc x.nU x.cu (fun (e : Nat) => x.lenP e) (fun (e : Nat) => x.FC e) (fun (i e : Nat) => x.iO i e) (fun (i e : Nat) => x.iA i e) (fun (i e : Nat) => x.iB i e) (fun (e : Nat) => x.uP e) (fun (e : Nat) => x.uL e) fun (e : Nat) => x.uD e))
    (V.need (lB (Cf.mk x.W x.L x.C x.T x.D x.H x.B x.A x.P x.nP x.rc x.nU x.cu (fun (e : Nat) => x.lenP e) (fun (e : Nat) => x.FC e) (fun (i e : Nat) => x.iO i e) (fun (i e : Nat) => x.iA i e) (fun (i e : Nat) => x.iB i e) (fun (e : Nat) => x.uP e) (fun (e : Nat) => x.uL e) fun (e : Nat) => x.uD e) = lB (Cf.mk x.W x.L x.C x.T x.D x.H x.B x.A x.P x.nP x.rc x.nU x.cu (fun (e : Nat) => x.lenP e) (fun (e : Nat) => x.FC e) (fun (i e : Nat) => x.iO i e) (fun (i e : Nat) => x.iA i e) (fun (i e : Nat) => x.iB i e) (fun (e : Nat) => x.uP e) (fun (e : Nat) => x.uL e) fun (e : Nat) => x.uD e))
    (V.need (lQ (Cf.mk x.W x.L x.C x.T x.D x.H x.B x.A x.P x.nP x.rc x.nU x.cu (fun (e : Nat) => x.lenP e) (fun (e : Nat) => x.FC e) (fun (i e : Nat) => x.iO i e) (fun (i e : Nat) => x.iA i e) (fun (i e : Nat) => x.iB i e) (fun (e : Nat) => x.uP e) (fun (e : Nat) => x.uL e) fun (e : Nat) => x.uD e) = lQ (Cf.mk x.W x.L x.C x.T x.D x.H x.B x.A x.P x.nP x.rc x.nU x.cu (fun (e : Nat) => x.lenP e) (fun (e : Nat) => x.FC e) (fun (i e : Nat) => x.iO i e) (fun (i e : Nat) => x.iA i e) (fun (i e : Nat) => x.iB i e) (fun (e : Nat) => x.uP e) (fun (e : Nat) => x.uL e) fun (e : Nat) => x.uD e))
    (V.need (lT (Cf.mk x.W x.L x.C x.T x.D x.H x.B x.A x.P x.nP x.rc x.nU x.cu (fun (e : Nat) => x.lenP e) (fun (e : Nat) => x.FC e) (fun (i e : Nat) => x.iO i e) (fun (i e : Nat) => x.iA i e) (fun (i e : Nat) => x.iB i e) (fun (e : Nat) => x.uP e) (fun (e : Nat) => x.uL e) fun (e : Nat) => x.uD e) = lT (Cf.mk x.W x.L x.C x.T x.D x.H x.B x.A x.P x.nP x.rc x.nU x.cu (fun (e : Nat) => x.lenP e) (fun (e : Nat) => x.FC e) (fun (i e : Nat) => x.iO i e) (fun (i e : Nat) => x.iA i e) (fun (i e : Nat) => x.iB i e) (fun (e : Nat) => x.uP e) (fun (e : Nat) => x.uL e) fun (e : Nat) => x.uD e))
    (V.need (w = w)
    (V.need (w < Int.ofNat 0 ∨ x.W ≤ w)
    (nN [(6, .lt2 0 1 0 1)] V.ok)))))))))))))))))))))))))))))))))))))))))))))))))))))))))))))))))))))) := by kernel_rfl


end Go.Proofs.Ytdnagdckpkflhaa.Vc

/- LevelsApart: the conditions hold; the walk. -/
set_option linter.unusedVariables false
set_option linter.unusedSimpArgs false
set_option maxRecDepth 100000
namespace Go.Proofs.Ytdnagdckpkflhaa.Vc
open Go Go.RowKit Sx Cn Dc Ck
theorem vhQNo {x : L11} {w v : Int} (h : w < 0 ∨ x.a0 ≤ w ∨ v < 0 ∨ x.a1 ≤ v) : VHolds (verQNo x w v) := by
  constructor
  rw [verQNo_eq]
  simp only [Int.ofNat_eq_natCast]
  (repeat' first | with_reducible exact V.okI | with_reducible refine V.brT ?_ | with_reducible refine V.brF ?_ | with_reducible refine V.brI ?_ ?_ | with_reducible refine V.anyI ?_ | with_reducible refine nN_h ?_ ?_ | with_reducible refine V.needI ?_ ?_ | intro _)
  all_goals first
    | exact True.intro
    | (exfalso; simp only [decide_eq_true_eq, decide_eq_false_iff_not] at *; omega)
theorem vhBNo {x : L11} {w : Int} (h : w < 0 ∨ x.a0 ≤ w) : VHolds (verBNo x w) := by
  constructor
  rw [verBNo_eq]
  simp only [Int.ofNat_eq_natCast]
  (repeat' first | with_reducible exact V.okI | with_reducible refine V.brT ?_ | with_reducible refine V.brF ?_ | with_reducible refine V.brI ?_ ?_ | with_reducible refine V.anyI ?_ | with_reducible refine nN_h ?_ ?_ | with_reducible refine V.needI ?_ ?_ | intro _)
  all_goals first
    | exact True.intro
    | (exfalso; simp only [decide_eq_true_eq, decide_eq_false_iff_not] at *; omega)
theorem conQNo_ok : ContractOK P 182 conQNo := contract_of_useP fun args H => by
  unfold conQNo
  repeat' split
  all_goals first
    | exact .inl ⟨_, rfl⟩
    | exact .inr ⟨_, _, _, _, _, rfl, local_of_ver0 ConOK.nil vhQNo⟩
theorem conBNo_ok : ContractOK P 184 conBNo := contract_of_useP fun args H => by
  unfold conBNo
  repeat' split
  all_goals first
    | exact .inl ⟨_, rfl⟩
    | exact .inr ⟨_, _, _, _, _, rfl, local_of_ver0 ConOK.nil vhBNo⟩
theorem vhAw13 : VHolds verAw13 := by
  constructor
  rw [verAw13_eq]
  (repeat' first | with_reducible exact V.okI | with_reducible refine V.brT ?_ | with_reducible refine V.brF ?_ | with_reducible refine V.brI ?_ ?_ | with_reducible refine V.anyI ?_ | with_reducible refine nN_h ?_ ?_ | with_reducible refine V.needI ?_ ?_ | intro _)
  all_goals (first | rfl | exact True.intro | exact ⟨u8_0, by decide⟩ | exact ⟨(1, 0, fun _ => 0), Nat.le_refl _⟩ | exact ⟨Nat.le_refl _, by assumption⟩ | exact Nat.zero_le _ | exact ⟨Nat.zero_le _, Nat.zero_le _⟩ | exact ⟨(_, _), is_cl _, Nat.le_refl _⟩ | exact err9 (by unfold okN; simp only [Int.ofNat_eq_natCast]; omega) rfl rfl rfl | decide)
theorem con13_ok : ConOK P con13 := .add conQNo_ok (.add conBNo_ok (.add (conYes_ok (local_of_ps conWL_ok fun _ => vhAw13)) conW_ok))
theorem vhApart {g : Nat → Int} {len cap : Nat} {w v x : Int} (hu : U8 len g) (hw : -9223372036854775808 ≤ w ∧ w ≤ 9223372036854775807) (hv : -9223372036854775808 ≤ v ∧ v ≤ 9223372036854775807) : VHolds (verApart g len cap w v x) := by
  constructor
  rw [verApart_eq]
  simp only [Int.ofNat_eq_natCast]
  refine V.brI (fun _ => V.okI) fun _ => ?_
  repeat' first
    | with_reducible exact V.okI
    | with_reducible refine V.brI ?_ ?_
    | with_reducible refine nN_h ?_ ?_
    | with_reducible refine V.needI ?_ ?_
    | (with_reducible refine V.anyI ?_
       first
       | (intro (d : Cf) (hd : IsDec _ _ d); have hY := okY_of (dec_err hu hd))
       | (intro y hy))
    | intro _
  all_goals first
    | rfl
    | exact True.intro
    | exact hu
    | exact ⟨_, is_dec⟩
    | exact Nat.le_refl _
    | exact dec_err hu (by assumption)
    | exact ⟨(_, _), is_cl _, Nat.le_refl _⟩
    | exact hu _ (by assumption)
    | (rw [gd_at' (by assumption), gd_at' (by assumption)]; obtain ⟨FC, rc, cu, hb, rfl⟩ := hd; exact ⟨Nat.le_refl _, hb.1 _ (by assumption)⟩)
    | (simp only [decide_eq_true_eq, decide_eq_false_iff_not] at *
       first
       | omega
       | (rw [w64 (by have := hY.2.1; omega)]; have := hY.2.1; omega))
    | (obtain ⟨FC, rc, cu, hb, rfl⟩ := hd; exact ⟨Nat.le_refl _, hb.2.1⟩)
    | (obtain ⟨FC, rc, cu, hb, rfl⟩ := hd; exact ⟨Nat.le_refl _, hb.2.2⟩)
theorem walkApart (a : Option Addr) (len cap : Nat) (g : Nat → Int) (w v x : Int) (W : World) (h : IsInts .u8 W a len cap g) (hw : (Lit.int .i64 w).wf = true) (hv : (Lit.int .i64 v).wf = true) (_ : (Lit.int .i64 x).wf = true) :
    Calls P 4 #[.slice a len cap, .int .i64 w, .int .i64 v, .int .i64 x] W fun e w' => e = .returned (.bool true) ∧ Below W.heap.size W w' := by
  refine calls_yesV (vs := [.slice a len cap, .int .i64 w, .int .i64 v, .int .i64 x]) con13_ok (ρ := fun k i => if k = 0 ∧ i = 0 then addr0 a else none) (vhApart (fun e he => u8i (h.fits e he)) (wfi hw) (wfi hv)) (views_inv fun k b hk => ?_) ⟨h.val (by simp) ⟨Nat.le_of_ble_eq_true rfl, trivial⟩, fun _ _ => rfl, fun _ _ => rfl, fun _ _ => rfl, trivial⟩
  rw [find_cons] at hk
  split at hk
  · rename_i e; subst e
    cases hk
    exact ⟨rfl, by decide, h.sat (by simp)⟩
  · cases hk
end Go.Proofs.Ytdnagdckpkflhaa.Vc
