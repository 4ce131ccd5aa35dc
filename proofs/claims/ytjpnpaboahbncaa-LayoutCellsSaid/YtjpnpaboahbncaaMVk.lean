/- layout: places of cells, of the program and of the reference: what is asked, what is answered. -/
import Derived.Test.YtjpnpaboahbncaaMVh
import Derived.Test.YtjpnpaboahbncaaMVb
set_option linter.unusedVariables false
set_option linter.unusedSimpArgs false
set_option linter.unusedVariables false
set_option maxRecDepth 100000
namespace Go.Proofs.Ytjpnpaboahbncaa.Vc
open Go Go.RowKit Sx Cn Dc Ck
/-- The configurations whose layout is asked for: small numbers. -/
def okY (c : Cf) : Prop := (1 ≤ c.W ∧ c.W ≤ 16) ∧ (1 ≤ c.L ∧ c.L ≤ 64) ∧ (1 ≤ c.C ∧ c.C ≤ 8) ∧ (1 ≤ c.T ∧ c.T ≤ 256) ∧ (1 ≤ c.D ∧ c.D ≤ 64) ∧ (1 ≤ c.H ∧ c.H ≤ 64)
theorem okN_Y {c : Cf} (h : okN c) : okY c := by unfold okN at h; unfold okY; omega
def lS (c : Cf) : Int := 4 + c.H
def lE (c : Cf) : Int := 4 + c.H + c.C
def lB (c : Cf) : Int := 4 + c.H + c.C + c.W
def lQ (c : Cf) : Int := 4 + c.H + c.C + c.W + c.W
def lT (c : Cf) : Int := lQ c + c.W * c.L * (2 + c.D)
def qNo (c : Cf) (w v : Int) : Prop := w < 0 ∨ c.W ≤ w ∨ v < 0 ∨ c.L ≤ v
instance (c : Cf) (w v : Int) : Decidable (qNo c w v) := by unfold qNo; infer_instance
def qT (c : Cf) (w v k : Int) : Int := if qNo c w v then -1 else lQ c + (w * c.L + v) * (2 + c.D) + k
def qC (c : Cf) (w v : Int) : Int := if qNo c w v then 0 else c.D
noncomputable section
def layA (c : Cf) : SV := .a [.iv .i64 c.W, .iv .i64 c.L, .iv .i64 c.C, .iv .i64 c.T, .iv .i64 c.D, .iv .i64 c.H, .iv .i64 (lS c), .iv .i64 (lE c), .iv .i64 (lB c), .iv .i64 (lQ c), .iv .i64 (lT c)]
def queA (c : Cf) (w v : Int) : SV := .a [.iv .i64 (qT c w v 0), .iv .i64 (qT c w v 1), .iv .i64 (qT c w v 2), .iv .i64 (qC c w v)]
def fin1 (n : Nat) (sv : SV) : SV → Hp → V := finV (X := Unit) n n (fun _ _ => some ()) (fun _ _ => []) (fun _ => True) (fun _ => sv) (fun _ => [])
def verIdx (first i n w : Int) : V := verF P con0 3 3 125 [] .nil [iv first, iv i, iv n, iv w] ⟨[], 0, fun _ => True⟩ (finV (X := Unit) 0 0 (fun _ _ => some ()) (fun _ _ => []) (fun _ => True) (fun _ => iv (atF i n first w)) (fun _ => []))
def preA (i n first w : Int) : Prop := ¬ (i < 0 ∨ n ≤ i) → Fit (i * w) ∧ Fit (first + i * w)
def conIdx : List SV → Hp → Out (SV × Hp) := fun args H => match args with
  | [.c a, .c b, .c c, .c d] => match numC a, numC b, numC c, numC d with
    | some first, some i, some n, some w => useP [] 0 [iv first, iv i, iv n, iv w] [] (.need (preA i n first w) (.leaf (iv (atF i n first w), ⟨[], 0, fun _ => True⟩))) args H
    | _, _, _, _ => .bad 450
  | _ => .bad 451
end
end Go.Proofs.Ytjpnpaboahbncaa.Vc

/- layout: the conditions, printed by program. -/
set_option linter.unusedVariables false
set_option maxRecDepth 100000
namespace Go.Proofs.Ytjpnpaboahbncaa.Vc
open Go Go.RowKit Sx Cn Dc Ck

theorem verIdx_eq (first i n w : Int) : verIdx first i n w =
  V.br (decide (i < Int.ofNat 0))
    (V.need True
    (V.need (Int.negSucc 0 = atF i n first w) V.ok))
    (V.br (decide (i ≥ n))
    (V.need True
    (V.need (Int.negSucc 0 = atF i n first w) V.ok))
    (V.need True
    (V.need (IntKind.i64.wrap (first + IntKind.i64.wrap (i * w)) = atF i n first w) V.ok))) := by kernel_rfl


end Go.Proofs.Ytjpnpaboahbncaa.Vc

/- layout: index, the contract; a task's cell, a deque. -/
set_option linter.unusedVariables false
set_option linter.unusedSimpArgs false
set_option maxRecDepth 100000
namespace Go.Proofs.Ytjpnpaboahbncaa.Vc
open Go Go.RowKit Sx Cn Dc Ck
theorem atF_no {i n first w : Int} (h : i < 0 ∨ n ≤ i) : -1 = atF i n first w := by unfold atF; rw [if_pos h]
theorem atF_yes {i n first w : Int} (h : ¬ (i < 0 ∨ n ≤ i)) : first + i * w = atF i n first w := by unfold atF; rw [if_neg h]
theorem vhIdx {first i n w : Int} (h : preA i n first w) : VHolds (verIdx first i n w) := by
  constructor
  rw [verIdx_eq]
  simp only [V.holds, Int.ofNat_eq_natCast, decide_eq_true_eq, decide_eq_false_iff_not, ge_iff_le, true_and, and_true, eq_self, Int.cast_ofNat_Int]
  repeat' first | exact True.intro | with_reducible apply And.intro | intro _
  all_goals first
    | exact atF_no (by omega)
    | (obtain ⟨h1, h2⟩ := h (by omega); rw [w64 h1, w64 h2]; exact atF_yes (by omega))
theorem conIdx_ok : ContractOK P 125 conIdx := contract_of_useP fun args H => by
  unfold conIdx
  repeat' split
  all_goals first
    | exact .inl ⟨_, rfl⟩
    | exact .inr ⟨_, _, _, _, _, rfl, local_of_ver0 ConOK.nil fun h => vhIdx h⟩
noncomputable section
def conY1 : Con := Con.add 125 conIdx (Con.add 80 (conP [.i64, .i64, .i64, .i64] postAt) con3)
theorem conY1_ok : ConOK P conY1 := .add conIdx_ok (.add (conP_ok pure80) con3_ok)
def verTask (c : Cf) (t k : Int) : V := verF P conY1 3 3 126 [] .nil [argC c, iv t, iv k] ⟨hC c, 3, fun _ => True⟩ (finV (X := Unit) 3 3 (fun _ _ => some ()) (fun _ _ => []) (fun _ => True) (fun _ => iv (atF t c.T (lT c + k) 5)) (fun _ => []))
def verLQ (c : Cf) (w v : Int) : V := verF P conY1 3 3 40 [] .nil [layA c, iv w, iv v] ⟨[], 0, fun _ => True⟩ (finV (X := Unit) 0 0 (fun _ _ => some ()) (fun _ _ => []) (fun _ => True) (fun _ => queA c w v) (fun _ => []))
def verRQ (c : Cf) (w v : Int) : V := verF P conY1 3 3 86 [] .nil [argC c, iv w, iv v] ⟨hC c, 3, fun _ => True⟩ (finV (X := Unit) 3 3 (fun _ _ => some ()) (fun _ _ => []) (fun _ => True) (fun _ => queA c w v) (fun _ => []))
end
end Go.Proofs.Ytjpnpaboahbncaa.Vc

/- layout: the conditions, printed by program. -/
set_option linter.unusedVariables false
set_option maxRecDepth 100000
namespace Go.Proofs.Ytjpnpaboahbncaa.Vc
open Go Go.RowKit Sx Cn Dc Ck

theorem verTask_eq (c : Cf) (t k : Int) : verTask c t k =
  V.need (0 < 1 ∧ 0 < 1)
    (V.need (0 < 1 ∧ 0 < 1)
    (V.need (0 < 1 ∧ 0 < 1)
    (V.need (0 < 1 ∧ 0 < 1)
    (V.need (0 < 1 ∧ 0 < 1)
    (V.need (0 < 1 ∧ 0 < 1)
    (V.need (0 < 1 ∧ 0 < 1)
    (V.need (0 < 1 ∧ 0 < 1)
    (V.need (0 < 1 ∧ 0 < 1)
    (V.need (0 < 1 ∧ 0 < 1)
    (V.need (0 < 1 ∧ 0 < 1)
    (V.need (0 < 1 ∧ 0 < 1)
    (V.need (0 < 1 ∧ 0 < 1)
    (V.need (0 < 1 ∧ 0 < 1)
    (V.need (0 < 1 ∧ 0 < 1)
    (V.need (0 < 1 ∧ 0 < 1)
    (V.need (0 < 1 ∧ 0 < 1)
    (V.need (0 < 1 ∧ 0 < 1)
    (V.need (0 < 1 ∧ 0 < 1)
    (V.need (IntKind.i64.wrap (IntKind.i64.wrap (IntKind.i64.wrap (IntKind.i64.wrap (Int.ofNat 4 + c.H) + c.C) + IntKind.i64.wrap (Int.ofNat 2 * c.W)) + IntKind.i64.wrap (IntKind.i64.wrap (c.W * c.L) * IntKind.i64.wrap (Int.ofNat 2 + c.D))) = IntKind.i64.wrap (IntKind.i64.wrap (IntKind.i64.wrap (IntKind.i64.wrap (Int.ofNat 4 + c.H) + c.C) + IntKind.i64.wrap (Int.ofNat 2 * c.W)) + IntKind.i64.wrap (IntKind.i64.wrap (c.W * c.L) * IntKind.i64.wrap (Int.ofNat 2 + c.D))))
    (V.need (t = t)
    (V.need (c.T = c.T)
    (V.need (Int.ofNat 5 = Int.ofNat 5)
    (V.need (preA t c.T (IntKind.i64.wrap (IntKind.i64.wrap (IntKind.i64.wrap (IntKind.i64.wrap (Int.ofNat 4 + c.H) + c.C) + IntKind.i64.wrap (Int.ofNat 2 * c.W)) + IntKind.i64.wrap (IntKind.i64.wrap (c.W * c.L) * IntKind.i64.wrap (Int.ofNat 2 + c.D)))) (Int.ofNat 5))
    (V.br (decide (atF t c.T (IntKind.i64.wrap (IntKind.i64.wrap (IntKind.i64.wrap (IntKind.i64.wrap (Int.ofNat 4 + c.H) + c.C) + IntKind.i64.wrap (Int.ofNat 2 * c.W)) + IntKind.i64.wrap (IntKind.i64.wrap (c.W * c.L) * IntKind.i64.wrap (Int.ofNat 2 + c.D)))) (Int.ofNat 5) < Int.ofNat 0))
    (V.need True
    (V.need (Int.negSucc 0 = atF t c.T (lT c + k) (Int.ofNat 5)) V.ok))
    (V.need True
    (V.need (IntKind.i64.wrap (atF t c.T (IntKind.i64.wrap (IntKind.i64.wrap (IntKind.i64.wrap (IntKind.i64.wrap (Int.ofNat 4 + c.H) + c.C) + IntKind.i64.wrap (Int.ofNat 2 * c.W)) + IntKind.i64.wrap (IntKind.i64.wrap (c.W * c.L) * IntKind.i64.wrap (Int.ofNat 2 + c.D)))) (Int.ofNat 5) + k) = atF t c.T (lT c + k) (Int.ofNat 5)) V.ok)))))))))))))))))))))))))) := by kernel_rfl

theorem verLQ_eq (c : Cf) (w v : Int) : verLQ c w v =
  V.need (¬(w < Int.ofNat 0 ∨ c.W ≤ w) → Fit (w * IntKind.i64.wrap (c.L * IntKind.i64.wrap (Int.ofNat 2 + c.D))) ∧ Fit (lQ c + w * IntKind.i64.wrap (c.L * IntKind.i64.wrap (Int.ofNat 2 + c.D))))
    (V.need (¬(v < Int.ofNat 0 ∨ c.L ≤ v) → Fit (v * IntKind.i64.wrap (Int.ofNat 2 + c.D)) ∧ Fit (atF w c.W (lQ c) (IntKind.i64.wrap (c.L * IntKind.i64.wrap (Int.ofNat 2 + c.D))) + v * IntKind.i64.wrap (Int.ofNat 2 + c.D)))
    (V.br (decide (atF w c.W (lQ c) (IntKind.i64.wrap (c.L * IntKind.i64.wrap (Int.ofNat 2 + c.D))) < Int.ofNat 0))
    (V.need True
    (V.need (Int.negSucc 0 = qT c w v (Int.ofNat 0))
    (V.need (Int.negSucc 0 = qT c w v (Int.ofNat 1))
    (V.need (Int.negSucc 0 = qT c w v (Int.ofNat 2))
    (V.need (Int.ofNat 0 = qC c w v) V.ok)))))
    (V.br (decide (atF v c.L (atF w c.W (lQ c) (IntKind.i64.wrap (c.L * IntKind.i64.wrap (Int.ofNat 2 + c.D)))) (IntKind.i64.wrap (Int.ofNat 2 + c.D)) < Int.ofNat 0))
    (V.need True
    (V.need (Int.negSucc 0 = qT c w v (Int.ofNat 0))
    (V.need (Int.negSucc 0 = qT c w v (Int.ofNat 1))
    (V.need (Int.negSucc 0 = qT c w v (Int.ofNat 2))
    (V.need (Int.ofNat 0 = qC c w v) V.ok)))))
    (V.need True
    (V.need (atF v c.L (atF w c.W (lQ c) (IntKind.i64.wrap (c.L * IntKind.i64.wrap (Int.ofNat 2 + c.D)))) (IntKind.i64.wrap (Int.ofNat 2 + c.D)) = qT c w v (Int.ofNat 0))
    (V.need (IntKind.i64.wrap (atF v c.L (atF w c.W (lQ c) (IntKind.i64.wrap (c.L * IntKind.i64.wrap (Int.ofNat 2 + c.D)))) (IntKind.i64.wrap (Int.ofNat 2 + c.D)) + Int.ofNat 1) = qT c w v (Int.ofNat 1))
    (V.need (IntKind.i64.wrap (atF v c.L (atF w c.W (lQ c) (IntKind.i64.wrap (c.L * IntKind.i64.wrap (Int.ofNat 2 + c.D)))) (IntKind.i64.wrap (Int.ofNat 2 + c.D)) + Int.ofNat 2) = qT c w v (Int.ofNat 2))
    (V.need (c.D = qC c w v) V.ok)))))))) := by kernel_rfl

theorem verRQ_eq (c : Cf) (w v : Int) : verRQ c w v =
  V.br (decide (w < Int.ofNat 0))
    (V.need True
    (V.need (Int.negSucc 0 = qT c w v (Int.ofNat 0))
    (V.need (Int.negSucc 0 = qT c w v (Int.ofNat 1))
    (V.need (Int.negSucc 0 = qT c w v (Int.ofNat 2))
    (V.need (Int.ofNat 0 = qC c w v) V.ok)))))
    (V.br (decide (w ≥ c.W))
    (V.need True
    (V.need (Int.negSucc 0 = qT c w v (Int.ofNat 0))
    (V.need (Int.negSucc 0 = qT c w v (Int.ofNat 1))
    (V.need (Int.negSucc 0 = qT c w v (Int.ofNat 2))
    (V.need (Int.ofNat 0 = qC c w v) V.ok)))))
    (V.br (decide (v < Int.ofNat 0))
    (V.need True
    (V.need (Int.negSucc 0 = qT c w v (Int.ofNat 0))
    (V.need (Int.negSucc 0 = qT c w v (Int.ofNat 1))
    (V.need (Int.negSucc 0 = qT c w v (Int.ofNat 2))
    (V.need (Int.ofNat 0 = qC c w v) V.ok)))))
    (V.br (decide (v ≥ c.L))
    (V.need True
    (V.need (Int.negSucc 0 = qT c w v (Int.ofNat 0))
    (V.need (Int.negSucc 0 = qT c w v (Int.ofNat 1))
    (V.need (Int.negSucc 0 = qT c w v (Int.ofNat 2))
    (V.need (Int.ofNat 0 = qC c w v) V.ok)))))
    (V.need (0 < 1 ∧ 0 < 1)
    (V.need (0 < 1 ∧ 0 < 1)
    (V.need (0 < 1 ∧ 0 < 1)
    (V.need (0 < 1 ∧ 0 < 1)
    (V.need (0 < 1 ∧ 0 < 1)
    (V.need (0 < 1 ∧ 0 < 1)
    (V.need (0 < 1 ∧ 0 < 1)
    (V.need (0 < 1 ∧ 0 < 1)
    (V.need (0 < 1 ∧ 0 < 1)
    (V.need (0 < 1 ∧ 0 < 1)
    (V.need (0 < 1 ∧ 0 < 1)
    (V.need (0 < 1 ∧ 0 < 1)
    (V.need (0 < 1 ∧ 0 < 1)
    (V.need (0 < 1 ∧ 0 < 1)
    (V.need (0 < 1 ∧ 0 < 1)
    (V.need True
    (V.need (IntKind.i64.wrap (IntKind.i64.wrap (IntKind.i64.wrap (IntKind.i64.wrap (Int.ofNat 4 + c.H) + c.C) + IntKind.i64.wrap (Int.ofNat 2 * c.W)) + IntKind.i64.wrap (IntKind.i64.wrap (IntKind.i64.wrap (w * c.L) + v) * IntKind.i64.wrap (Int.ofNat 2 + c.D))) = qT c w v (Int.ofNat 0))
    (V.need (IntKind.i64.wrap (IntKind.i64.wrap (IntKind.i64.wrap (IntKind.i64.wrap (IntKind.i64.wrap (Int.ofNat 4 + c.H) + c.C) + IntKind.i64.wrap (Int.ofNat 2 * c.W)) + IntKind.i64.wrap (IntKind.i64.wrap (IntKind.i64.wrap (w * c.L) + v) * IntKind.i64.wrap (Int.ofNat 2 + c.D))) + Int.ofNat 1) = qT c w v (Int.ofNat 1))
    (V.need (IntKind.i64.wrap (IntKind.i64.wrap (IntKind.i64.wrap (IntKind.i64.wrap (IntKind.i64.wrap (Int.ofNat 4 + c.H) + c.C) + IntKind.i64.wrap (Int.ofNat 2 * c.W)) + IntKind.i64.wrap (IntKind.i64.wrap (IntKind.i64.wrap (w * c.L) + v) * IntKind.i64.wrap (Int.ofNat 2 + c.D))) + Int.ofNat 2) = qT c w v (Int.ofNat 2))
    (V.need (c.D = qC c w v) V.ok))))))))))))))))))))))) := by kernel_rfl


end Go.Proofs.Ytjpnpaboahbncaa.Vc

/- layout: a task's cell, a deque: the contracts; all cells: what is asked. -/
set_option linter.unusedVariables false
set_option linter.unusedSimpArgs false
set_option maxRecDepth 100000
namespace Go.Proofs.Ytjpnpaboahbncaa.Vc
open Go Go.RowKit Sx Cn Dc Ck
theorem mulB {a b A B : Int} (h0 : 0 ≤ a) (h1 : a ≤ A) (h2 : 0 ≤ b) (h3 : b ≤ B) : 0 ≤ a * b ∧ a * b ≤ A * B :=
  ⟨Int.mul_nonneg h0 h2, Int.mul_le_mul h1 h3 h2 (by omega)⟩
section
variable {c : Cf} {w v : Int}
structure WY (c : Cf) : Prop where
  w1 : IntKind.i64.wrap (4 + c.H) = 4 + c.H
  w2 : IntKind.i64.wrap (4 + c.H + c.C) = 4 + c.H + c.C
  w3 : IntKind.i64.wrap (2 * c.W) = 2 * c.W
  w4 : IntKind.i64.wrap (4 + c.H + c.C + 2 * c.W) = lQ c
  w5 : IntKind.i64.wrap (c.W * c.L) = c.W * c.L
  w6 : IntKind.i64.wrap (2 + c.D) = 2 + c.D
  w7 : IntKind.i64.wrap (c.W * c.L * (2 + c.D)) = c.W * c.L * (2 + c.D)
  w8 : IntKind.i64.wrap (lQ c + c.W * c.L * (2 + c.D)) = lT c
  w9 : IntKind.i64.wrap (c.L * (2 + c.D)) = c.L * (2 + c.D)
  w10 : IntKind.i64.wrap (4 + c.H + c.C + c.W) = 4 + c.H + c.C + c.W
  w11 : IntKind.i64.wrap (4 + c.H + c.C + c.W + c.W) = lQ c
  q : 0 ≤ lQ c ∧ lQ c ≤ 200
  t : 0 ≤ lT c ∧ lT c ≤ 70000
  y : 0 ≤ c.L * (2 + c.D) ∧ c.L * (2 + c.D) ≤ 4224
theorem wy (h : okY c) : WY c := by
  obtain ⟨h1, h2, h3, h4, h5, h6⟩ := h
  have hX := mulB (a := c.W) (b := c.L) (A := 16) (B := 64) (by omega) h1.2 (by omega) h2.2
  have hY := mulB (a := c.W * c.L) (b := 2 + c.D) (A := 1024) (B := 66) hX.1 (by omega) (by omega) (by omega)
  have hZ := mulB (a := c.L) (b := 2 + c.D) (A := 64) (B := 66) (by omega) (by omega) (by omega) (by omega)
  have q : 0 ≤ lQ c ∧ lQ c ≤ 200 := by unfold lQ; omega
  have e : lQ c = 4 + c.H + c.C + 2 * c.W := by unfold lQ; omega
  refine ⟨w64 (by omega), w64 (by omega), w64 (by omega), ?_, w64 (by omega), w64 (by omega), w64 (by omega), ?_, w64 (by omega), w64 (by omega), w64 (by omega), q, ?_, hZ⟩
  · rw [e]; exact w64 (by omega)
  · unfold lT; exact w64 (by omega)
  · unfold lT; omega
theorem at_pos {i n first w : Int} (h : 0 ≤ atF i n first w) : 0 ≤ i ∧ i < n := by
  unfold atF at h
  split at h
  · omega
  · omega
theorem at_neg {i n first w : Int} (h : atF i n first w < 0) (h0 : 0 ≤ first) (hw : 0 ≤ w) : i < 0 ∨ n ≤ i := by
  unfold atF at h
  split at h
  · assumption
  · rename_i hn
    have := Int.mul_nonneg (show 0 ≤ i by omega) hw
    omega
theorem q_mid (h : ¬ qNo c w v) : atF v c.L (atF w c.W (lQ c) (c.L * (2 + c.D))) (2 + c.D) = lQ c + (w * c.L + v) * (2 + c.D) := by
  unfold qNo at h
  have e1 : atF w c.W (lQ c) (c.L * (2 + c.D)) = lQ c + w * (c.L * (2 + c.D)) := by unfold atF; rw [if_neg (by omega)]
  rw [e1]
  unfold atF
  rw [if_neg (by omega), Int.add_mul, Int.mul_assoc, Int.add_assoc]
theorem q_bd (hy : okY c) (h : ¬ qNo c w v) : 0 ≤ (w * c.L + v) * (2 + c.D) ∧ (w * c.L + v) * (2 + c.D) ≤ 80000 ∧ 0 ≤ w * c.L ∧ w * c.L ≤ 1024 := by
  unfold qNo at h
  obtain ⟨h1, h2, h3, h4, h5, h6⟩ := hy
  have a := mulB (a := w) (b := c.L) (A := 16) (B := 64) (by omega) (by omega) (by omega) h2.2
  have b := mulB (a := w * c.L + v) (b := 2 + c.D) (A := 1100) (B := 66) (by omega) (by omega) (by omega) (by omega)
  omega
theorem qT_no {k : Int} (h : qNo c w v) : -1 = qT c w v k := by unfold qT; rw [if_pos h]
theorem qC_no (h : qNo c w v) : 0 = qC c w v := by unfold qC; rw [if_pos h]
theorem qT_yes {k : Int} (h : ¬ qNo c w v) : lQ c + (w * c.L + v) * (2 + c.D) + k = qT c w v k := by unfold qT; rw [if_neg h]
theorem qC_yes (h : ¬ qNo c w v) : c.D = qC c w v := by unfold qC; rw [if_neg h]
theorem vhTask {c : Cf} {t k : Int} (h : okY c ∧ 0 ≤ k ∧ k ≤ 4) : VHolds (verTask c t k) := by
  constructor
  rw [verTask_eq]
  obtain ⟨hy, h0, h4⟩ := h
  have W := wy hy
  obtain ⟨_, _, _, hT, _, _⟩ := hy
  simp only [V.holds, preA, Int.ofNat_eq_natCast, decide_eq_true_eq, decide_eq_false_iff_not, ge_iff_le, true_and, and_true, eq_self, Int.cast_ofNat_Int, Nat.zero_lt_one, W.w1, W.w2, W.w3, W.w4, W.w5, W.w6, W.w7, W.w8]
  have ht := W.t
  refine ⟨fun h => ⟨⟨by omega, by omega⟩, ⟨by omega, by omega⟩⟩, fun h => ?_, fun h => ?_⟩
  · have := at_neg h W.t.1 (by decide)
    exact atF_no this
  · have := at_pos (Int.not_lt.1 h)
    have e1 : atF t c.T (lT c) 5 = lT c + t * 5 := (atF_yes (by omega)).symm
    rw [e1, w64 (by omega), ← atF_yes (i := t) (n := c.T) (first := lT c + k) (w := 5) (by omega)]
    omega
theorem vhLQ {c : Cf} {w v : Int} (h : okY c) : VHolds (verLQ c w v) := by
  constructor
  rw [verLQ_eq]
  have W := wy h
  have hq := W.q
  have hyy := W.y
  simp only [V.holds, Int.ofNat_eq_natCast, decide_eq_true_eq, decide_eq_false_iff_not, ge_iff_le, true_and, and_true, eq_self, Int.cast_ofNat_Int, Nat.zero_lt_one, W.w6, W.w9]
  have n2 : 0 ≤ 2 + c.D ∧ 2 + c.D ≤ 66 := by have := h.2.2.2.2.1; omega
  refine ⟨fun hn => ?_, fun hn => ?_, fun hn => ?_, fun hf => ⟨fun hn => ?_, fun hn => ?_⟩⟩
  · have := mulB (a := w) (b := c.L * (2 + c.D)) (A := 16) (B := 4224) (by omega) (by have := h.1; omega) hyy.1 hyy.2
    exact ⟨⟨by omega, by omega⟩, ⟨by omega, by omega⟩⟩
  · have h1 := mulB (a := v) (b := 2 + c.D) (A := 64) (B := 66) (by omega) (by have := h.2.1; omega) n2.1 n2.2
    have h2 : -1 ≤ atF w c.W (lQ c) (c.L * (2 + c.D)) ∧ atF w c.W (lQ c) (c.L * (2 + c.D)) ≤ 100000 := by
      unfold atF
      split
      · omega
      · have := mulB (a := w) (b := c.L * (2 + c.D)) (A := 16) (B := 4224) (by omega) (by have := h.1; omega) hyy.1 hyy.2
        omega
    exact ⟨⟨by omega, by omega⟩, ⟨by omega, by omega⟩⟩
  · have hno : qNo c w v := by have := at_neg hn hq.1 hyy.1; unfold qNo; omega
    exact ⟨qT_no hno, qT_no hno, qT_no hno, qC_no hno⟩
  · have hno : qNo c w v := by have := at_neg hn (by omega) n2.1; unfold qNo; omega
    exact ⟨qT_no hno, qT_no hno, qT_no hno, qC_no hno⟩
  · have hno : ¬ qNo c w v := by have a := at_pos (Int.not_lt.1 hf); have b := at_pos (Int.not_lt.1 hn); unfold qNo; omega
    have hb := q_bd h hno
    rw [q_mid hno, w64 (by omega), w64 (by omega)]
    exact ⟨by rw [← qT_yes hno]; omega, qT_yes hno, qT_yes hno, qC_yes hno⟩
theorem vhRQ {c : Cf} {w v : Int} (h : okY c) : VHolds (verRQ c w v) := by
  constructor
  rw [verRQ_eq]
  have W := wy h
  have hq := W.q
  simp only [V.holds, Int.ofNat_eq_natCast, decide_eq_true_eq, decide_eq_false_iff_not, ge_iff_le, true_and, and_true, eq_self, Int.cast_ofNat_Int, Nat.zero_lt_one, W.w1, W.w2, W.w3, W.w4, W.w6]
  refine ⟨fun hn => ?_, fun n1 => ⟨fun hn => ?_, fun n2 => ⟨fun hn => ?_, fun n3 => ⟨fun hn => ?_, fun n4 => ?_⟩⟩⟩⟩
  all_goals try (have hno : qNo c w v := by unfold qNo; omega
                 exact ⟨qT_no hno, qT_no hno, qT_no hno, qC_no hno⟩)
  have hno : ¬ qNo c w v := by unfold qNo; omega
  have hb := q_bd h hno
  have hL := h.2.1
  have a1 : IntKind.i64.wrap (w * c.L) = w * c.L := w64 (by omega)
  have a2 : IntKind.i64.wrap (w * c.L + v) = w * c.L + v := w64 (by omega)
  have a3 : IntKind.i64.wrap ((w * c.L + v) * (2 + c.D)) = (w * c.L + v) * (2 + c.D) := w64 (by omega)
  have a4 : IntKind.i64.wrap (lQ c + (w * c.L + v) * (2 + c.D)) = lQ c + (w * c.L + v) * (2 + c.D) := w64 (by omega)
  have a5 : IntKind.i64.wrap (lQ c + (w * c.L + v) * (2 + c.D) + 1) = lQ c + (w * c.L + v) * (2 + c.D) + 1 := w64 (by omega)
  have a6 : IntKind.i64.wrap (lQ c + (w * c.L + v) * (2 + c.D) + 2) = lQ c + (w * c.L + v) * (2 + c.D) + 2 := w64 (by omega)
  simp only [a1, a2, a3, a4, a5, a6]
  exact ⟨by rw [← qT_yes hno]; omega, qT_yes hno, qT_yes hno, qC_yes hno⟩
end
noncomputable section
def cf6 (W L C T D H : Int) : Cf := ⟨W, L, C, T, D, H, 0, 0, 0, 0, 0, 0, 0, fun _ => 0, fun _ => 0, fun _ _ => 0, fun _ _ => 0, fun _ _ => 0, fun _ => 0, fun _ => 0, fun _ => 0⟩
def conLQ : List SV → Hp → Out (SV × Hp) := fun args H => match args with
  | [.a [x0, x1, x2, x3, x4, x5, _, _, _, _, _], .c w, .c v] => match numC x0, numC x1, numC x2, numC x3, numC x4, numC x5, numC w, numC v with
    | some W, some L, some C, some T, some D, some h, some w, some v => useP [] 0 [layA (cf6 W L C T D h), iv w, iv v] [] (.need (okY (cf6 W L C T D h)) (.leaf (queA (cf6 W L C T D h) w v, ⟨[], 0, fun _ => True⟩))) args H
    | _, _, _, _, _, _, _, _ => .bad 450
  | _ => .bad 451
theorem conLQ_ok : ContractOK P 40 conLQ := contract_of_useP fun args H => by
  unfold conLQ
  repeat' split
  all_goals first
    | exact .inl ⟨_, rfl⟩
    | exact .inr ⟨_, _, _, _, _, rfl, local_of_ver0 conY1_ok fun h => vhLQ h⟩
/-- A contract of a function of a configuration and two numbers. -/
def conCf2 (post : Cf → Int → Int → Out (SV × Hp)) : List SV → Hp → Out (SV × Hp) := fun args H => match args with
  | [s, .c w, .c v] => match rdCf s H.h, numC w, numC v with
    | some p, some w, some v => match three p.2 with
      | some k => fN k.1 fun k0 => fN k.2.1 fun k1 => fN k.2.2 fun k2 => useP [k0, k1, k2] 3 [argC p.1, iv w, iv v] (hC p.1) (post p.1 w v) args H
      | none => .bad 452
    | _, _, _ => .bad 453
  | _ => .bad 454
theorem conCf2_ok {f : FuncId} {post : Cf → Int → Int → Out (SV × Hp)} (h : ∀ c w v, LocalOK P f [argC c, iv w, iv v] (hC c) 3 (post c w v)) : ContractOK P f (conCf2 post) := contract_of_useP fun args H => by
  unfold conCf2
  simp only [fN_eq]
  repeat' split
  all_goals first
    | exact .inl ⟨_, rfl⟩
    | exact .inr ⟨_, _, _, _, _, rfl, h _ _ _⟩
def conRQ : List SV → Hp → Out (SV × Hp) := conCf2 fun c w v => .need (okY c) (.leaf (queA c w v, ⟨[], 3, fun _ => True⟩))
theorem conRQ_ok : ContractOK P 86 conRQ := conCf2_ok fun c w v => local_of_ver0 conY1_ok fun h => vhRQ h
def conTask : List SV → Hp → Out (SV × Hp) := conCf2 fun c t k => .need (okY c ∧ 0 ≤ k ∧ k ≤ 4) (.leaf (iv (atF t c.T (lT c + k) 5), ⟨[], 3, fun _ => True⟩))
theorem conTask_ok : ContractOK P 126 conTask := conCf2_ok fun c w v => local_of_ver0 conY1_ok fun h => vhTask h
def conY2 : Con := Con.add 126 conTask (Con.add 86 conRQ (Con.add 40 conLQ conY1))
theorem conY2_ok : ConOK P conY2 := .add conTask_ok (.add conRQ_ok (.add conLQ_ok conY1_ok))
def verCells (c : Cf) (a b : Int) : V := verF P conY2 3 4 43 [] .nil [argC c, layA c, iv a, iv b] ⟨hC c, 3, fun _ => True⟩ (finV (X := Unit) 3 3 (fun _ _ => some ()) (fun _ _ => []) (fun _ => True) (fun _ => .c (.kb true)) (fun _ => []))
end
end Go.Proofs.Ytjpnpaboahbncaa.Vc

/- layout: the conditions, printed by program. -/
set_option linter.unusedVariables false
set_option maxRecDepth 100000
namespace Go.Proofs.Ytjpnpaboahbncaa.Vc
open Go Go.RowKit Sx Cn Dc Ck

set_option maxHeartbeats 8000000 in
theorem verCells_eq (c : Cf) (a b : Int) : verCells c a b =
  V.need (0 < 1 ∧ 0 < 1)
    (V.need (0 < 1 ∧ 0 < 1)
    (V.need (0 < 1 ∧ 0 < 1)
    (V.need (0 < 1 ∧ 0 < 1)
    (V.need (0 < 1 ∧ 0 < 1)
    (V.need (0 < 1 ∧ 0 < 1)
    (V.need (0 < 1 ∧ 0 < 1)
    (V.need (0 < 1 ∧ 0 < 1)
    (V.need (0 < 1 ∧ 0 < 1)
    (V.need (0 < 1 ∧ 0 < 1)
    (V.need (0 < 1 ∧ 0 < 1)
    (V.need (0 < 1 ∧ 0 < 1)
    (V.need (0 < 1 ∧ 0 < 1)
    (V.need (0 < 1 ∧ 0 < 1)
    (V.need (0 < 1 ∧ 0 < 1)
    (V.need (0 < 1 ∧ 0 < 1)
    (V.need (0 < 1 ∧ 0 < 1)
    (V.need (0 < 1 ∧ 0 < 1)
    (V.need (0 < 1 ∧ 0 < 1)
    (V.need (0 < 1 ∧ 0 < 1)
    (V.need (0 < 1 ∧ 0 < 1)
    (V.need (0 < 1 ∧ 0 < 1)
    (V.need (0 < 1 ∧ 0 < 1)
    (V.need (0 < 1 ∧ 0 < 1)
    (V.need (0 < 1 ∧ 0 < 1)
    (V.need (0 < 1 ∧ 0 < 1)
    (V.need (0 < 1 ∧ 0 < 1)
    (V.need (0 < 1 ∧ 0 < 1)
    (V.need (0 < 1 ∧ 0 < 1)
    (V.need (0 < 1 ∧ 0 < 1)
    (V.need (0 < 1 ∧ 0 < 1)
    (V.need (0 < 1 ∧ 0 < 1)
    (V.need (0 < 1 ∧ 0 < 1)
    (V.need (0 < 1 ∧ 0 < 1)
    (V.need (0 < 1 ∧ 0 < 1)
    (V.need (0 < 1 ∧ 0 < 1)
    (V.need (0 < 1 ∧ 0 < 1)
    (V.need (0 < 1 ∧ 0 < 1)
    (V.need (0 < 1 ∧ 0 < 1)
    (V.need (0 < 1 ∧ 0 < 1)
    (V.need (0 < 1 ∧ 0 < 1)
    (V.br (IntKind.i64.wrap (lT c + IntKind.i64.wrap (Int.ofNat 5 * c.T)) != IntKind.i64.wrap (IntKind.i64.wrap (IntKind.i64.wrap (IntKind.i64.wrap (IntKind.i64.wrap (Int.ofNat 4 + c.H) + c.C) + IntKind.i64.wrap (Int.ofNat 2 * c.W)) + IntKind.i64.wrap (IntKind.i64.wrap (c.W * c.L) * IntKind.i64.wrap (Int.ofNat 2 + c.D))) + IntKind.i64.wrap (Int.ofNat 5 * c.T)))
    (V.need True
    (V.need (false = true) V.ok))
    (V.need (0 < 1 ∧ 0 < 1)
    (V.need (0 < 1 ∧ 0 < 1)
    (V.need (0 < 1 ∧ 0 < 1)
    (V.need (0 < 1 ∧ 0 < 1)
    (V.need (0 < 1 ∧ 0 < 1)
    (V.need (0 < 1 ∧ 0 < 1)
    (V.need (0 < 1 ∧ 0 < 1)
    (V.need (0 < 1 ∧ 0 < 1)
    (V.need (0 < 1 ∧ 0 < 1)
    (V.need (0 < 1 ∧ 0 < 1)
    (V.need (0 < 1 ∧ 0 < 1)
    (V.need (0 < 1 ∧ 0 < 1)
    (V.need (0 < 1 ∧ 0 < 1)
    (V.need (0 < 1 ∧ 0 < 1)
    (V.need (0 < 1 ∧ 0 < 1)
    (V.need (0 < 1 ∧ 0 < 1)
    (V.need (0 < 1 ∧ 0 < 1)
    (V.need (0 < 1 ∧ 0 < 1)
    (V.need (0 < 1 ∧ 0 < 1)
    (V.need (0 < 1 ∧ 0 < 1)
    (V.need (0 < 1 ∧ 0 < 1)
    (V.need (0 < 1 ∧ 0 < 1)
    (V.need (0 < 1 ∧ 0 < 1)
    (V.need (0 < 1 ∧ 0 < 1)
    (V.need (0 < 1 ∧ 0 < 1)
    (V.need (0 < 1 ∧ 0 < 1)
    (V.need (0 < 1 ∧ 0 < 1)
    (V.need (0 < 1 ∧ 0 < 1)
    (V.need (0 < 1 ∧ 0 < 1)
    (V.need (0 < 1 ∧ 0 < 1)
    (V.need (0 < 1 ∧ 0 < 1)
    (V.need (0 < 1 ∧ 0 < 1)
    (V.need (0 < 1 ∧ 0 < 1)
    (V.need (0 < 1 ∧ 0 < 1)
    (V.need (0 < 1 ∧ 0 < 1)
    (V.need (0 < 1 ∧ 0 < 1)
    (V.need (0 < 1 ∧ 0 < 1)
    (V.need (0 < 1 ∧ 0 < 1)
    (V.need (0 < 1 ∧ 0 < 1)
    (V.need (0 < 1 ∧ 0 < 1)
    (V.need (0 < 1 ∧ 0 < 1)
    (V.need (0 < 1 ∧ 0 < 1)
    (V.need (0 < 1 ∧ 0 < 1)
    (V.need (0 < 1 ∧ 0 < 1)
    (V.need (0 < 1 ∧ 0 < 1)
    (V.need (0 < 1 ∧ 0 < 1)
    (V.need (0 < 1 ∧ 0 < 1)
    (V.need (0 < 1 ∧ 0 < 1)
    (V.need (0 < 1 ∧ 0 < 1)
    (V.need (0 < 1 ∧ 0 < 1)
    (V.need (0 < 1 ∧ 0 < 1)
    (V.need (0 < 1 ∧ 0 < 1)
    (V.need (0 < 1 ∧ 0 < 1)
    (V.need (0 < 1 ∧ 0 < 1)
    (V.need (0 < 1 ∧ 0 < 1)
    (V.need (¬(a < Int.ofNat 0 ∨ c.H ≤ a) → Fit (a * Int.ofNat 1) ∧ Fit (Int.ofNat 4 + a * Int.ofNat 1))
    (V.need (0 < 1 ∧ 0 < 1)
    (V.need (0 < 1 ∧ 0 < 1)
    (V.need (0 < 1 ∧ 0 < 1)
    (V.need (0 < 1 ∧ 0 < 1)
    (V.need (0 < 1 ∧ 0 < 1)
    (V.need (0 < 1 ∧ 0 < 1)
    (V.need (0 < 1 ∧ 0 < 1)
    (V.need (0 < 1 ∧ 0 < 1)
    (V.need (0 < 1 ∧ 0 < 1)
    (V.need (0 < 1 ∧ 0 < 1)
    (V.need (0 < 1 ∧ 0 < 1)
    (V.need (Int.ofNat 4 = Int.ofNat 4)
    (V.need (a = a)
    (V.need (c.H = c.H)
    (V.need (Int.ofNat 1 = Int.ofNat 1)
    (V.need (preA a c.H (Int.ofNat 4) (Int.ofNat 1))
    (V.br (atF a c.H (Int.ofNat 4) (Int.ofNat 1) != atF a c.H (Int.ofNat 4) (Int.ofNat 1))
    (V.need True
    (V.need (false = true) V.ok))
    (V.need (0 < 1 ∧ 0 < 1)
    (V.need (0 < 1 ∧ 0 < 1)
    (V.need (0 < 1 ∧ 0 < 1)
    (V.need (0 < 1 ∧ 0 < 1)
    (V.need (0 < 1 ∧ 0 < 1)
    (V.need (0 < 1 ∧ 0 < 1)
    (V.need (0 < 1 ∧ 0 < 1)
    (V.need (0 < 1 ∧ 0 < 1)
    (V.need (0 < 1 ∧ 0 < 1)
    (V.need (0 < 1 ∧ 0 < 1)
    (V.need (0 < 1 ∧ 0 < 1)
    (V.need (¬(a < Int.ofNat 0 ∨ c.C ≤ a) → Fit (a * Int.ofNat 1) ∧ Fit (lS c + a * Int.ofNat 1))
    (V.need (0 < 1 ∧ 0 < 1)
    (V.need (0 < 1 ∧ 0 < 1)
    (V.need (0 < 1 ∧ 0 < 1)
    (V.need (0 < 1 ∧ 0 < 1)
    (V.need (0 < 1 ∧ 0 < 1)
    (V.need (0 < 1 ∧ 0 < 1)
    (V.need (0 < 1 ∧ 0 < 1)
    (V.need (0 < 1 ∧ 0 < 1)
    (V.need (0 < 1 ∧ 0 < 1)
    (V.need (0 < 1 ∧ 0 < 1)
    (V.need (0 < 1 ∧ 0 < 1)
    (V.need (IntKind.i64.wrap (Int.ofNat 4 + c.H) = IntKind.i64.wrap (Int.ofNat 4 + c.H))
    (V.need (a = a)
    (V.need (c.C = c.C)
    (V.need (Int.ofNat 1 = Int.ofNat 1)
    (V.need (preA a c.C (IntKind.i64.wrap (Int.ofNat 4 + c.H)) (Int.ofNat 1))
    (V.br (atF a c.C (lS c) (Int.ofNat 1) != atF a c.C (IntKind.i64.wrap (Int.ofNat 4 + c.H)) (Int.ofNat 1))
    (V.need True
    (V.need (false = true) V.ok))
    (V.need (0 < 1 ∧ 0 < 1)
    (V.need (0 < 1 ∧ 0 < 1)
    (V.need (0 < 1 ∧ 0 < 1)
    (V.need (0 < 1 ∧ 0 < 1)
    (V.need (0 < 1 ∧ 0 < 1)
    (V.need (0 < 1 ∧ 0 < 1)
    (V.need (0 < 1 ∧ 0 < 1)
    (V.need (0 < 1 ∧ 0 < 1)
    (V.need (0 < 1 ∧ 0 < 1)
    (V.need (0 < 1 ∧ 0 < 1)
    (V.need (0 < 1 ∧ 0 < 1)
    (V.need (¬(a < Int.ofNat 0 ∨ c.W ≤ a) → Fit (a * Int.ofNat 1) ∧ Fit (lE c + a * Int.ofNat 1))
    (V.need (0 < 1 ∧ 0 < 1)
    (V.need (0 < 1 ∧ 0 < 1)
    (V.need (0 < 1 ∧ 0 < 1)
    (V.need (0 < 1 ∧ 0 < 1)
    (V.need (0 < 1 ∧ 0 < 1)
    (V.need (0 < 1 ∧ 0 < 1)
    (V.need (0 < 1 ∧ 0 < 1)
    (V.need (0 < 1 ∧ 0 < 1)
    (V.need (0 < 1 ∧ 0 < 1)
    (V.need (0 < 1 ∧ 0 < 1)
    (V.need (0 < 1 ∧ 0 < 1)
    (V.need (IntKind.i64.wrap (IntKind.i64.wrap (Int.ofNat 4 + c.H) + c.C) = IntKind.i64.wrap (IntKind.i64.wrap (Int.ofNat 4 + c.H) + c.C))
    (V.need (a = a)
    (V.need (c.W = c.W)
    (V.need (Int.ofNat 1 = Int.ofNat 1)
    (V.need (preA a c.W (IntKind.i64.wrap (IntKind.i64.wrap (Int.ofNat 4 + c.H) + c.C)) (Int.ofNat 1))
    (V.br (atF a c.W (lE c) (Int.ofNat 1) != atF a c.W (IntKind.i64.wrap (IntKind.i64.wrap (Int.ofNat 4 + c.H) + c.C)) (Int.ofNat 1))
    (V.need True
    (V.need (false = true) V.ok))
    (V.need (0 < 1 ∧ 0 < 1)
    (V.need (0 < 1 ∧ 0 < 1)
    (V.need (0 < 1 ∧ 0 < 1)
    (V.need (0 < 1 ∧ 0 < 1)
    (V.need (0 < 1 ∧ 0 < 1)
    (V.need (0 < 1 ∧ 0 < 1)
    (V.need (0 < 1 ∧ 0 < 1)
    (V.need (0 < 1 ∧ 0 < 1)
    (V.need (0 < 1 ∧ 0 < 1)
    (V.need (0 < 1 ∧ 0 < 1)
    (V.need (0 < 1 ∧ 0 < 1)
    (V.need (¬(a < Int.ofNat 0 ∨ c.W ≤ a) → Fit (a * Int.ofNat 1) ∧ Fit (lB c + a * Int.ofNat 1))
    (V.need (0 < 1 ∧ 0 < 1)
    (V.need (0 < 1 ∧ 0 < 1)
    (V.need (0 < 1 ∧ 0 < 1)
    (V.need (0 < 1 ∧ 0 < 1)
    (V.need (0 < 1 ∧ 0 < 1)
    (V.need (0 < 1 ∧ 0 < 1)
    (V.need (0 < 1 ∧ 0 < 1)
    (V.need (0 < 1 ∧ 0 < 1)
    (V.need (0 < 1 ∧ 0 < 1)
    (V.need (0 < 1 ∧ 0 < 1)
    (V.need (0 < 1 ∧ 0 < 1)
    (V.need (IntKind.i64.wrap (IntKind.i64.wrap (IntKind.i64.wrap (Int.ofNat 4 + c.H) + c.C) + c.W) = IntKind.i64.wrap (IntKind.i64.wrap (IntKind.i64.wrap (Int.ofNat 4 + c.H) + c.C) + c.W))
    (V.need (a = a)
    (V.need (c.W = c.W)
    (V.need (Int.ofNat 1 = Int.ofNat 1)
    (V.need (preA a c.W (IntKind.i64.wrap (IntKind.i64.wrap (IntKind.i64.wrap (Int.ofNat 4 + c.H) + c.C) + c.W)) (Int.ofNat 1))
    (V.br (atF a c.W (lB c) (Int.ofNat 1) != atF a c.W (IntKind.i64.wrap (IntKind.i64.wrap (IntKind.i64.wrap (Int.ofNat 4 + c.H) + c.C) + c.W)) (Int.ofNat 1))
    (V.need True
    (V.need (false = true) V.ok))
    (V.need (0 < 1 ∧ 0 < 1)
    (V.need (0 < 1 ∧ 0 < 1)
    (V.need (0 < 1 ∧ 0 < 1)
    (V.need (0 < 1 ∧ 0 < 1)
    (V.need (0 < 1 ∧ 0 < 1)
    (V.need (0 < 1 ∧ 0 < 1)
    (V.need (0 < 1 ∧ 0 < 1)
    (V.need (0 < 1 ∧ 0 < 1)
    (V.need (0 < 1 ∧ 0 < 1)
    (V.need (0 < 1 ∧ 0 < 1)
    (V.need (0 < 1 ∧ 0 < 1)
    (V.need (c.W = c.W)
    (V.need (c.L = c.L)
    (V.need (c.C = c.C)
    (V.need (c.T = c.T)
    (V.need (c.D = c.D)
    (V.need (c.H = c.H)
    (V.need (lS c = lS (cf6 c.W c.L c.C c.T c.D c.H))
    (V.need (lE c = lE (cf6 c.W c.L c.C c.T c.D c.H))
    (V.need (lB c = lB (cf6 c.W c.L c.C c.T c.D c.H))
    (V.need (lQ c = lQ (cf6 c.W c.L c.C c.T c.D c.H))
    (V.need (lT c = lT (cf6 c.W c.L c.C c.T c.D c.H))
    (V.need (a = a)
    (V.need (b = b)
    (V.need (okY (cf6 c.W c.L c.C c.T c.D c.H))
    (V.need (0 < 1 ∧ 0 < 1)
    (V.need (0 < 1 ∧ 0 < 1)
    (V.need (0 < 1 ∧ 0 < 1)
    (V.need (0 < 1 ∧ 0 < 1)
    (V.need (0 < 1 ∧ 0 < 1)
    (V.need (0 < 1 ∧ 0 < 1)
    (V.need (0 < 1 ∧ 0 < 1)
    (V.need (0 < 1 ∧ 0 < 1)
    (V.need (0 < 1 ∧ 0 < 1)
    (V.need (0 < 1 ∧ 0 < 1)
    (V.need (0 < 1 ∧ 0 < 1)
    (V.need (c.W = c.W)
    (V.need (c.L = c.L)
    (V.need (c.C = c.C)
    (V.need (c.T = c.T)
    (V.need (c.D = c.D)
    (V.need (c.H = c.H)
    (V.need (c.B = c.B)
    (V.need (c.A = c.A)
    (V.need (c.P = c.P)
    (V.need (c.nP = c.nP)
    (V.need (c.rc = c.rc)
    (V.need (c.nU = c.nU)
    (V.need (c.cu = c.cu)
    (V.need (a = a)
    (V.need (b = b)
    (V.need (1 ≤ 1)
    (V.need (∀ (i : Nat), i < 1 → c.nP ≤ c.nP)
    (V.need (∀ (i e : Nat), i < 1 ∧ e < c.nP → e = e)
    (V.need (∀ (i e : Nat), i < 1 ∧ e < c.nP → c.lenP e = c.lenP e)
    (V.need (∀ (i e : Nat), i < 1 ∧ e < c.nP → c.FC e = c.FC e)
    (V.need (1 ≤ 1)
    (V.need (∀ (i : Nat), i < 1 → c.nU ≤ c.nU)
    (V.need (∀ (i e : Nat), i < 1 ∧ e < c.nU → c.uP e = c.uP e)
    (V.need (∀ (i e : Nat), i < 1 ∧ e < c.nU → c.uL e = c.uL e)
    (V.need (∀ (i e : Nat), i < 1 ∧ e < c.nU → c.uD e = c.uD e)
    (V.need (c.nP ≤ c.nP)
    (V.need (∀ (i : Nat), i < c.nP → c.lenP i ≤ c.lenP i)
    (V.need (∀ (i e : Nat), i < c.nP ∧ e < c.lenP i → c.iO i e = c.iO i e)
    (V.need (∀ (i e : Nat), i < c.nP ∧ e < c.lenP i → c.iA i e = c.iA i e)
    (V.need (∀ (i e : Nat), i < c.nP ∧ e < c.lenP i → c.iB i e = c.iB i e)
    (V.need (okY (Cf.mk c.W c.L c.C c.T c.D c.H c.B c.A c.P c.nP c.rc c.nU c.cu (fun (e : Nat) => c.lenP e) (fun (e : Nat) => c.FC e) (fun (i e : Nat) => c.iO i e) (fun (i e : Nat) => c.iA i e) (fun (i e : Nat) => c.iB i e) (fun (e : Nat) => c.uP e) (fun (e : Nat) => c.uL e) fun (e : Nat) => c.uD e))
    (V.br (!(qT (cf6 c.W c.L c.C c.T c.D c.H) a b (Int.ofNat 0) == qT (Cf.mk c.W c.L c.C c.T c.D c.H c.B c.A c.P c.nP c.rc c.nU c.cu (fun (e : Nat) => c.lenP e) (fun (e : Nat) => c.FC e) (fun (i e : Nat) => c.iO i e) (fun (i e : Nat) => c.iA i e) (fun (i e : Nat) => c.iB i e) (fun (e : Nat) => c.uP e) (fun (e : Nat) => c.uL e) fun (e : Nat) => c.uD e) a b (Int.ofNat 0) && (qT (cf6 c.W c.L c.C c.T c.D c.H) a b (Int.ofNat 1) == qT (Cf.mk c.W c.L c.C c.T c.D c.H c.B c.A c.P c.nP c.rc c.nU c.cu (fun (e : Nat) => c.lenP e) (fun (e : Nat) => c.FC e) (fun (i e : Nat) => c.iO i e) (fun (i e : Nat) => c.iA i e) (fun (i e : Nat) => c.iB i e) (fun (e : Nat) => c.uP e) (fun (e : Nat) => c.uL e) fun (e : Nat) => c.uD e) a b (Int.ofNat 1) && (qT (cf6 c.W c.L c.C c.T c.D c.H) a b (Int.ofNat 2) == qT (Cf.mk c.W c.L c.C c.T c.D c.H c.B c.A c.P c.nP c.rc c.nU c.cu (fun (e : Nat) => c.lenP e) (fun (e : Nat) => c.FC e) (fun (i e : Nat) => c.iO i e) (fun (i e : Nat) => c.iA i e) (fun (i e : Nat) => c.iB i e) (fun (e : Nat) => c.uP e) (fun (e : Nat) => c.uL e) fun (e : Nat) => c.uD e) a b (Int.ofNat 2) && (qC (cf6 c.W c.L c.C c.T c.D c.H) a b == qC (Cf.mk c.W c.L c.C c.T c.D c.H c.B c.A c.P c.nP c.rc c.nU c.cu (fun (e : Nat) => c.lenP e) (fun (e : Nat) => c.FC e) (fun (i e : Nat) => c.iO i e) (fun (i e : Nat) => c.iA i e) (fun (i e : Nat) => c.iB i e) (fun (e : Nat) => c.uP e) (fun (e : Nat) => c.uL e) fun (e : Nat) => c.uD e) a b && true)))))
    (V.need True
    (V.need (false = true) V.ok))
    (V.need (0 < 1 ∧ 0 < 1)
    (V.need (0 < 1 ∧ 0 < 1)
    (V.need (0 < 1 ∧ 0 < 1)
    (V.need (0 < 1 ∧ 0 < 1)
    (V.need (0 < 1 ∧ 0 < 1)
    (V.need (0 < 1 ∧ 0 < 1)
    (V.need (0 < 1 ∧ 0 < 1)
    (V.need (0 < 1 ∧ 0 < 1)
    (V.need (0 < 1 ∧ 0 < 1)
    (V.need (0 < 1 ∧ 0 < 1)
    (V.need (0 < 1 ∧ 0 < 1)
    (V.need (¬(a < Int.ofNat 0 ∨ c.T ≤ a) → Fit (a * Int.ofNat 5) ∧ Fit (IntKind.i64.wrap (lT c + Int.ofNat 0) + a * Int.ofNat 5))
    (V.need (0 < 1 ∧ 0 < 1)
    (V.need (0 < 1 ∧ 0 < 1)
    (V.need (0 < 1 ∧ 0 < 1)
    (V.need (0 < 1 ∧ 0 < 1)
    (V.need (0 < 1 ∧ 0 < 1)
    (V.need (0 < 1 ∧ 0 < 1)
    (V.need (0 < 1 ∧ 0 < 1)
    (V.need (0 < 1 ∧ 0 < 1)
    (V.need (0 < 1 ∧ 0 < 1)
    (V.need (0 < 1 ∧ 0 < 1)
    (V.need (0 < 1 ∧ 0 < 1)
    (V.need (c.W = c.W)
    (V.need (c.L = c.L)
    (V.need (c.C = c.C)
    (V.need (c.T = c.T)
    (V.need (c.D = c.D)
    (V.need (c.H = c.H)
    (V.need (c.B = c.B)
    (V.need (c.A = c.A)
    (V.need (c.P = c.P)
    (V.need (c.nP = c.nP)
    (V.need (c.rc = c.rc)
    (V.need (c.nU = c.nU)
    (V.need (c.cu = c.cu)
    (V.need (a = a)
    (V.need (Int.ofNat 0 = Int.ofNat 0)
    (V.need (1 ≤ 1)
    (V.need (∀ (i : Nat), i < 1 → c.nP ≤ c.nP)
    (V.need (∀ (i e : Nat), i < 1 ∧ e < c.nP → e = e)
    (V.need (∀ (i e : Nat), i < 1 ∧ e < c.nP → c.lenP e = c.lenP e)
    (V.need (∀ (i e : Nat), i < 1 ∧ e < c.nP → c.FC e = c.FC e)
    (V.need (1 ≤ 1)
    (V.need (∀ (i : Nat), i < 1 → c.nU ≤ c.nU)
    (V.need (∀ (i e : Nat), i < 1 ∧ e < c.nU → c.uP e = c.uP e)
    (V.need (∀ (i e : Nat), i < 1 ∧ e < c.nU → c.uL e = c.uL e)
    (V.need (∀ (i e : Nat), i < 1 ∧ e < c.nU → c.uD e = c.uD e)
    (V.need (c.nP ≤ c.nP)
    (V.need (∀ (i : Nat), i < c.nP → c.lenP i ≤ c.lenP i)
    (V.need (∀ (i e : Nat), i < c.nP ∧ e < c.lenP i → c.iO i e = c.iO i e)
    (V.need (∀ (i e : Nat), i < c.nP ∧ e < c.lenP i → c.iA i e = c.iA i e)
    (V.need (∀ (i e : Nat), i < c.nP ∧ e < c.lenP i → c.iB i e = c.iB i e)
    (V.need (okY (Cf.mk c.W c.L c.C c.T c.D c.H c.B c.A c.P c.nP c.rc c.nU c.cu (fun (e : Nat) => c.lenP e) (fun (e : Nat) => c.FC e) (fun (i e : Nat) => c.iO i e) (fun (i e : Nat) => c.iA i e) (fun (i e : Nat) => c.iB i e) (fun (e : Nat) => c.uP e) (fun (e : Nat) => c.uL e) fun (e : Nat) => c.uD e) ∧ Int.ofNat 0 ≤ Int.ofNat 0 ∧ Int.ofNat 0 ≤ Int.ofNat 4)
    (V.br (atF a c.T (IntKind.i64.wrap (lT c + Int.ofNat 0)) (Int.ofNat 5) == atF a c.T (lT (Cf.mk c.W c.L c.C c.T c.D c.H c.B c.A c.P c.nP c.rc c.nU c.cu (fun (e : Nat) => c.lenP e) (fun (e : Nat) => c.FC e) (fun (i e : Nat) => c.iO i e) (fun (i e : Nat) => c.iA i e) (fun (i e : Nat) => c.iB i e) (fun (e : Nat) => c.uP e) (fun (e : Nat) => c.uL e) fun (e : Nat) => c.uD e) + Int.ofNat 0) (Int.ofNat 5))
    (V.need (0 < 1 ∧ 0 < 1)
    (V.need (0 < 1 ∧ 0 < 1)
    (V.need (0 < 1 ∧ 0 < 1)
    (V.need (0 < 1 ∧ 0 < 1)
    (V.need (0 < 1 ∧ 0 < 1)
    (V.need (0 < 1 ∧ 0 < 1)
    (V.need (0 < 1 ∧ 0 < 1)
    (V.need (0 < 1 ∧ 0 < 1)
    (V.need (0 < 1 ∧ 0 < 1)
    (V.need (0 < 1 ∧ 0 < 1)
    (V.need (0 < 1 ∧ 0 < 1)
    (V.need (¬(a < Int.ofNat 0 ∨ c.T ≤ a) → Fit (a * Int.ofNat 5) ∧ Fit (IntKind.i64.wrap (lT c + Int.ofNat 1) + a * Int.ofNat 5))
    (V.need (0 < 1 ∧ 0 < 1)
    (V.need (0 < 1 ∧ 0 < 1)
    (V.need (0 < 1 ∧ 0 < 1)
    (V.need (0 < 1 ∧ 0 < 1)
    (V.need (0 < 1 ∧ 0 < 1)
    (V.need (0 < 1 ∧ 0 < 1)
    (V.need (0 < 1 ∧ 0 < 1)
    (V.need (0 < 1 ∧ 0 < 1)
    (V.need (0 < 1 ∧ 0 < 1)
    (V.need (0 < 1 ∧ 0 < 1)
    (V.need (0 < 1 ∧ 0 < 1)
    (V.need (c.W = c.W)
    (V.need (c.L = c.L)
    (V.need (c.C = c.C)
    (V.need (c.T = c.T)
    (V.need (c.D = c.D)
    (V.need (c.H = c.H)
    (V.need (c.B = c.B)
    (V.need (c.A = c.A)
    (V.need (c.P = c.P)
    (V.need (c.nP = c.nP)
    (V.need (c.rc = c.rc)
    (V.need (c.nU = c.nU)
    (V.need (c.cu = c.cu)
    (V.need (a = a)
    (V.need (Int.ofNat 1 = Int.ofNat 1)
    (V.need (1 ≤ 1)
    (V.need (∀ (i : Nat), i < 1 → c.nP ≤ c.nP)
    (V.need (∀ (i e : Nat), i < 1 ∧ e < c.nP → e = e)
    (V.need (∀ (i e : Nat), i < 1 ∧ e < c.nP → c.lenP e = c.lenP e)
    (V.need (∀ (i e : Nat), i < 1 ∧ e < c.nP → c.FC e = c.FC e)
    (V.need (1 ≤ 1)
    (V.need (∀ (i : Nat), i < 1 → c.nU ≤ c.nU)
    (V.need (∀ (i e : Nat), i < 1 ∧ e < c.nU → c.uP e = c.uP e)
    (V.need (∀ (i e : Nat), i < 1 ∧ e < c.nU → c.uL e = c.uL e)
    (V.need (∀ (i e : Nat), i < 1 ∧ e < c.nU → c.uD e = c.uD e)
    (V.need (c.nP ≤ c.nP)
    (V.need (∀ (i : Nat), i < c.nP → c.lenP i ≤ c.lenP i)
    (V.need (∀ (i e : Nat), i < c.nP ∧ e < c.lenP i → c.iO i e = c.iO i e)
    (V.need (∀ (i e : Nat), i < c.nP ∧ e < c.lenP i → c.iA i e = c.iA i e)
    (V.need (∀ (i e : Nat), i < c.nP ∧ e < c.lenP i → c.iB i e = c.iB i e)
    (V.need (okY (Cf.mk c.W c.L c.C c.T c.D c.H c.B c.A c.P c.nP c.rc c.nU c.cu (fun (e : Nat) => c.lenP e) (fun (e : Nat) => c.FC e) (fun (i e : Nat) => c.iO i e) (fun (i e : Nat) => c.iA i e) (fun (i e : Nat) => c.iB i e) (fun (e : Nat) => c.uP e) (fun (e : Nat) => c.uL e) fun (e : Nat) => c.uD e) ∧ Int.ofNat 0 ≤ Int.ofNat 1 ∧ Int.ofNat 1 ≤ Int.ofNat 4)
    (V.br (atF a c.T (IntKind.i64.wrap (lT c + Int.ofNat 1)) (Int.ofNat 5) == atF a c.T (lT (Cf.mk c.W c.L c.C c.T c.D c.H c.B c.A c.P c.nP c.rc c.nU c.cu (fun (e : Nat) => c.lenP e) (fun (e : Nat) => c.FC e) (fun (i e : Nat) => c.iO i e) (fun (i e : Nat) => c.iA i e) (fun (i e : Nat) => c.iB i e) (fun (e : Nat) => c.uP e) (fun (e : Nat) => c.uL e) fun (e : Nat) => c.uD e) + Int.ofNat 1) (Int.ofNat 5))
    (V.need (0 < 1 ∧ 0 < 1)
    (V.need (0 < 1 ∧ 0 < 1)
    (V.need (0 < 1 ∧ 0 < 1)
    (V.need (0 < 1 ∧ 0 < 1)
    (V.need (0 < 1 ∧ 0 < 1)
    (V.need (0 < 1 ∧ 0 < 1)
    (V.need (0 < 1 ∧ 0 < 1)
    (V.need (0 < 1 ∧ 0 < 1)
    (V.need (0 < 1 ∧ 0 < 1)
    (V.need (0 < 1 ∧ 0 < 1)
    (V.need (0 < 1 ∧ 0 < 1)
    (V.need (¬(a < Int.ofNat 0 ∨ c.T ≤ a) → Fit (a * Int.ofNat 5) ∧ Fit (IntKind.i64.wrap (lT c + Int.ofNat 2) + a * Int.ofNat 5))
    (V.need (0 < 1 ∧ 0 < 1)
    (V.need (0 < 1 ∧ 0 < 1)
    (V.need (0 < 1 ∧ 0 < 1)
    (V.need (0 < 1 ∧ 0 < 1)
    (V.need (0 < 1 ∧ 0 < 1)
    (V.need (0 < 1 ∧ 0 < 1)
    (V.need (0 < 1 ∧ 0 < 1)
    (V.need (0 < 1 ∧ 0 < 1)
    (V.need (0 < 1 ∧ 0 < 1)
    (V.need (0 < 1 ∧ 0 < 1)
    (V.need (0 < 1 ∧ 0 < 1)
    (V.need (c.W = c.W)
    (V.need (c.L = c.L)
    (V.need (c.C = c.C)
    (V.need (c.T = c.T)
    (V.need (c.D = c.D)
    (V.need (c.H = c.H)
    (V.need (c.B = c.B)
    (V.need (c.A = c.A)
    (V.need (c.P = c.P)
    (V.need (c.nP = c.nP)
    (V.need (c.rc = c.rc)
    (V.need (c.nU = c.nU)
    (V.need (c.cu = c.cu)
    (V.need (a = a)
    (V.need (Int.ofNat 2 = Int.ofNat 2)
    (V.need (1 ≤ 1)
    (V.need (∀ (i : Nat), i < 1 → c.nP ≤ c.nP)
    (V.need (∀ (i e : Nat), i < 1 ∧ e < c.nP → e = e)
    (V.need (∀ (i e : Nat), i < 1 ∧ e < c.nP → c.lenP e = c.lenP e)
    (V.need (∀ (i e : Nat), i < 1 ∧ e < c.nP → c.FC e = c.FC e)
    (V.need (1 ≤ 1)
    (V.need (∀ (i : Nat), i < 1 → c.nU ≤ c.nU)
    (V.need (∀ (i e : Nat), i < 1 ∧ e < c.nU → c.uP e = c.uP e)
    (V.need (∀ (i e : Nat), i < 1 ∧ e < c.nU → c.uL e = c.uL e)
    (V.need (∀ (i e : Nat), i < 1 ∧ e < c.nU → c.uD e = c.uD e)
    (V.need (c.nP ≤ c.nP)
    (V.need (∀ (i : Nat), i < c.nP → c.lenP i ≤ c.lenP i)
    (V.need (∀ (i e : Nat), i < c.nP ∧ e < c.lenP i → c.iO i e = c.iO i e)
    (V.need (∀ (i e : Nat), i < c.nP ∧ e < c.lenP i → c.iA i e = c.iA i e)
    (V.need (∀ (i e : Nat), i < c.nP ∧ e < c.lenP i → c.iB i e = c.iB i e)
    (V.need (okY (Cf.mk c.W c.L c.C c.T c.D c.H c.B c.A c.P c.nP c.rc c.nU c.cu (fun (e : Nat) => c.lenP e) (fun (e : Nat) => c.FC e) (fun (i e : Nat) => c.iO i e) (fun (i e : Nat) => c.iA i e) (fun (i e : Nat) => c.iB i e) (fun (e : Nat) => c.uP e) (fun (e : Nat) => c.uL e) fun (e : Nat) => c.uD e) ∧ Int.ofNat 0 ≤ Int.ofNat 2 ∧ Int.ofNat 2 ≤ Int.ofNat 4)
    (V.br (atF a c.T (IntKind.i64.wrap (lT c + Int.ofNat 2)) (Int.ofNat 5) == atF a c.T (lT (Cf.mk c.W c.L c.C c.T c.D c.H c.B c.A c.P c.nP c.rc c.nU c.cu (fun (e : Nat) => c.lenP e) (fun (e : Nat) => c.FC e) (fun (i e : Nat) => c.iO i e) (fun (i e : Nat) => c.iA i e) (fun (i e : Nat) => c.iB i e) (fun (e : Nat) => c.uP e) (fun (e : Nat) => c.uL e) fun (e : Nat) => c.uD e) + Int.ofNat 2) (Int.ofNat 5))
    (V.need (0 < 1 ∧ 0 < 1)
    (V.need (0 < 1 ∧ 0 < 1)
    (V.need (0 < 1 ∧ 0 < 1)
    (V.need (0 < 1 ∧ 0 < 1)
    (V.need (0 < 1 ∧ 0 < 1)
    (V.need (0 < 1 ∧ 0 < 1)
    (V.need (0 < 1 ∧ 0 < 1)
    (V.need (0 < 1 ∧ 0 < 1)
    (V.need (0 < 1 ∧ 0 < 1)
    (V.need (0 < 1 ∧ 0 < 1)
    (V.need (0 < 1 ∧ 0 < 1)
    (V.need (¬(a < Int.ofNat 0 ∨ c.T ≤ a) → Fit (a * Int.ofNat 5) ∧ Fit (IntKind.i64.wrap (lT c + Int.ofNat 3) + a * Int.ofNat 5))
    (V.need (0 < 1 ∧ 0 < 1)
    (V.need (0 < 1 ∧ 0 < 1)
    (V.need (0 < 1 ∧ 0 < 1)
    (V.need (0 < 1 ∧ 0 < 1)
    (V.need (0 < 1 ∧ 0 < 1)
    (V.need (0 < 1 ∧ 0 < 1)
    (V.need (0 < 1 ∧ 0 < 1)
    (V.need (0 < 1 ∧ 0 < 1)
    (V.need (0 < 1 ∧ 0 < 1)
    (V.need (0 < 1 ∧ 0 < 1)
    (V.need (0 < 1 ∧ 0 < 1)
    (V.need (c.W = c.W)
    (V.need (c.L = c.L)
    (V.need (c.C = c.C)
    (V.need (c.T = c.T)
    (V.need (c.D = c.D)
    (V.need (c.H = c.H)
    (V.need (c.B = c.B)
    (V.need (c.A = c.A)
    (V.need (c.P = c.P)
    (V.need (c.nP = c.nP)
    (V.need (c.rc = c.rc)
    (V.need (c.nU = c.nU)
    (V.need (c.cu = c.cu)
    (V.need (a = a)
    (V.need (Int.ofNat 3 = Int.ofNat 3)
    (V.need (1 ≤ 1)
    (V.need (∀ (i : Nat), i < 1 → c.nP ≤ c.nP)
    (V.need (∀ (i e : Nat), i < 1 ∧ e < c.nP → e = e)
    (V.need (∀ (i e : Nat), i < 1 ∧ e < c.nP → c.lenP e = c.lenP e)
    (V.need (∀ (i e : Nat), i < 1 ∧ e < c.nP → c.FC e = c.FC e)
    (V.need (1 ≤ 1)
    (V.need (∀ (i : Nat), i < 1 → c.nU ≤ c.nU)
    (V.need (∀ (i e : Nat), i < 1 ∧ e < c.nU → c.uP e = c.uP e)
    (V.need (∀ (i e : Nat), i < 1 ∧ e < c.nU → c.uL e = c.uL e)
    (V.need (∀ (i e : Nat), i < 1 ∧ e < c.nU → c.uD e = c.uD e)
    (V.need (c.nP ≤ c.nP)
    (V.need (∀ (i : Nat), i < c.nP → c.lenP i ≤ c.lenP i)
    (V.need (∀ (i e : Nat), i < c.nP ∧ e < c.lenP i → c.iO i e = c.iO i e)
    (V.need (∀ (i e : Nat), i < c.nP ∧ e < c.lenP i → c.iA i e = c.iA i e)
    (V.need (∀ (i e : Nat), i < c.nP ∧ e < c.lenP i → c.iB i e = c.iB i e)
    (V.need (okY (Cf.mk c.W c.L c.C c.T c.D c.H c.B c.A c.P c.nP c.rc c.nU c.cu (fun (e : Nat) => c.lenP e) (fun (e : Nat) => c.FC e) (fun (i e : Nat) => c.iO i e) (fun (i e : Nat) => c.iA i e) (fun (i e : Nat) => c.iB i e) (fun (e : Nat) => c.uP e) (fun (e : Nat) => c.uL e) fun (e : Nat) => c.uD e) ∧ Int.ofNat 0 ≤ Int.ofNat 3 ∧ Int.ofNat 3 ≤ Int.ofNat 4)
    (V.br (atF a c.T (IntKind.i64.wrap (lT c + Int.ofNat 3)) (Int.ofNat 5) == atF a c.T (lT (Cf.mk c.W c.L c.C c.T c.D c.H c.B c.A c.P c.nP c.rc c.nU c.cu (fun (e : Nat) => c.lenP e) (fun (e : Nat) => c.FC e) (fun (i e : Nat) => c.iO i e) (fun (i e : Nat) => c.iA i e) (fun (i e : Nat) => c.iB i e) (fun (e : Nat) => c.uP e) (fun (e : Nat) => c.uL e) fun (e : Nat) => c.uD e) + Int.ofNat 3) (Int.ofNat 5))
    (V.need (0 < 1 ∧ 0 < 1)
    (V.need (0 < 1 ∧ 0 < 1)
    (V.need (0 < 1 ∧ 0 < 1)
    (V.need (0 < 1 ∧ 0 < 1)
    (V.need (0 < 1 ∧ 0 < 1)
    (V.need (0 < 1 ∧ 0 < 1)
    (V.need (0 < 1 ∧ 0 < 1)
    (V.need (0 < 1 ∧ 0 < 1)
    (V.need (0 < 1 ∧ 0 < 1)
    (V.need (0 < 1 ∧ 0 < 1)
    (V.need (0 < 1 ∧ 0 < 1)
    (V.need (¬(a < Int.ofNat 0 ∨ c.T ≤ a) → Fit (a * Int.ofNat 5) ∧ Fit (IntKind.i64.wrap (lT c + Int.ofNat 4) + a * Int.ofNat 5))
    (V.need (0 < 1 ∧ 0 < 1)
    (V.need (0 < 1 ∧ 0 < 1)
    (V.need (0 < 1 ∧ 0 < 1)
    (V.need (0 < 1 ∧ 0 < 1)
    (V.need (0 < 1 ∧ 0 < 1)
    (V.need (0 < 1 ∧ 0 < 1)
    (V.need (0 < 1 ∧ 0 < 1)
    (V.need (0 < 1 ∧ 0 < 1)
    (V.need (0 < 1 ∧ 0 < 1)
    (V.need (0 < 1 ∧ 0 < 1)
    (V.need (0 < 1 ∧ 0 < 1)
    (V.need (c.W = c.W)
    (V.need (c.L = c.L)
    (V.need (c.C = c.C)
    (V.need (c.T = c.T)
    (V.need (c.D = c.D)
    (V.need (c.H = c.H)
    (V.need (c.B = c.B)
    (V.need (c.A = c.A)
    (V.need (c.P = c.P)
    (V.need (c.nP = c.nP)
    (V.need (c.rc = c.rc)
    (V.need (c.nU = c.nU)
    (V.need (c.cu = c.cu)
    (V.need (a = a)
    (V.need (Int.ofNat 4 = Int.ofNat 4)
    (V.need (1 ≤ 1)
    (V.need (∀ (i : Nat), i < 1 → c.nP ≤ c.nP)
    (V.need (∀ (i e : Nat), i < 1 ∧ e < c.nP → e = e)
    (V.need (∀ (i e : Nat), i < 1 ∧ e < c.nP → c.lenP e = c.lenP e)
    (V.need (∀ (i e : Nat), i < 1 ∧ e < c.nP → c.FC e = c.FC e)
    (V.need (1 ≤ 1)
    (V.need (∀ (i : Nat), i < 1 → c.nU ≤ c.nU)
    (V.need (∀ (i e : Nat), i < 1 ∧ e < c.nU → c.uP e = c.uP e)
    (V.need (∀ (i e : Nat), i < 1 ∧ e < c.nU → c.uL e = c.uL e)
    (V.need (∀ (i e : Nat), i < 1 ∧ e < c.nU → c.uD e = c.uD e)
    (V.need (c.nP ≤ c.nP)
    (V.need (∀ (i : Nat), i < c.nP → c.lenP i ≤ c.lenP i)
    (V.need (∀ (i e : Nat), i < c.nP ∧ e < c.lenP i → c.iO i e = c.iO i e)
    (V.need (∀ (i e : Nat), i < c.nP ∧ e < c.lenP i → c.iA i e = c.iA i e)
    (V.need (∀ (i e : Nat), i < c.nP ∧ e < c.lenP i → c.iB i e = c.iB i e)
    (V.need (okY (Cf.mk c.W c.L c.C c.T c.D c.H c.B c.A c.P c.nP c.rc c.nU c.cu (fun (e : Nat) => c.lenP e) (fun (e : Nat) => c.FC e) (fun (i e : Nat) => c.iO i e) (fun (i e : Nat) => c.iA i e) (fun (i e : Nat) => c.iB i e) (fun (e : Nat) => c.uP e) (fun (e : Nat) => c.uL e) fun (e : Nat) => c.uD e) ∧ Int.ofNat 0 ≤ Int.ofNat 4 ∧ Int.ofNat 4 ≤ Int.ofNat 4)
    (V.need True
    (V.need ((atF a c.T (IntKind.i64.wrap (lT c + Int.ofNat 4)) (Int.ofNat 5) == atF a c.T (lT (Cf.mk c.W c.L c.C c.T c.D c.H c.B c.A c.P c.nP c.rc c.nU c.cu (fun (e : Nat) => c.lenP e) (fun (e : Nat) => c.FC e) (fun (i e : Nat) => c.iO i e) (fun (i e : Nat) => c.iA i e) (fun (i e : Nat) => c.iB i e) (fun (e : Nat) => c.uP e) (fun (e : Nat) => c.uL e) fun (e : Nat) => c.uD e) + Int.ofNat 4) (Int.ofNat 5)) = true) V.ok))))))))))))))))))))))))))))))))))))))))))))))))))))))))
    (V.need True
    (V.need (false = true) V.ok)))))))))))))))))))))))))))))))))))))))))))))))))))))))))
    (V.need True
    (V.need (false = true) V.ok)))))))))))))))))))))))))))))))))))))))))))))))))))))))))
    (V.need True
    (V.need (false = true) V.ok)))))))))))))))))))))))))))))))))))))))))))))))))))))))))
    (V.need True
    (V.need (false = true) V.ok)))))))))))))))))))))))))))))))))))))))))))))))))))))))))))))))))))))))))))))))))))))))))))))))))))))))))))))))))))))))))))))))))))))))))))))))))))))))))))))))))))))))))))))))))))))))))))))))))))))))))))))))))))))))))))))))))))))))))))))))))))))))))))))))))))))))))))))))))))))))))))))))))))))))))))))))))))))))))))))))))))))) := by kernel_rfl


end Go.Proofs.Ytjpnpaboahbncaa.Vc

/- layout: all cells of a configuration are the reference's: the contract; New: what is asked. -/
set_option linter.unusedVariables false
set_option linter.unusedSimpArgs false
set_option maxRecDepth 100000
namespace Go.Proofs.Ytjpnpaboahbncaa.Vc
open Go Go.RowKit Sx Cn Dc Ck
theorem fit_at {i n first w A : Int} (hn : n ≤ A) (hA : 0 ≤ A ∧ A ≤ 1000) (hw : 0 ≤ w ∧ w ≤ 1000) (hf : 0 ≤ first ∧ first ≤ 1000000) (h : ¬ (i < 0 ∨ n ≤ i)) : Fit (i * w) ∧ Fit (first + i * w) := by
  have := mulB (a := i) (b := w) (A := 1000) (B := 1000) (by omega) (by omega) hw.1 hw.2
  exact ⟨⟨by omega, by omega⟩, ⟨by omega, by omega⟩⟩
theorem fit_a {i n w : Int} (hn : n ≤ 1000) (hw : 0 ≤ w ∧ w ≤ 1000) (h : ¬ (i < 0 ∨ n ≤ i)) : Fit (i * w) := (fit_at (first := 0) (A := 1000) hn (by omega) hw (by omega) h).1
theorem fit_b {i n first w : Int} (hn : n ≤ 1000) (hw : 0 ≤ w ∧ w ≤ 1000) (hf : 0 ≤ first ∧ first ≤ 1000000) (h : ¬ (i < 0 ∨ n ≤ i)) : Fit (first + i * w) := (fit_at (A := 1000) hn (by omega) hw hf h).2
set_option maxHeartbeats 8000000 in
theorem vhCells {c : Cf} {a b : Int} (h : okY c) : VHolds (verCells c a b) := by
  constructor
  rw [verCells_eq]
  have W := wy h
  have ht := W.t
  have hq := W.q
  obtain ⟨y1, y2, y3, y4, y5, y6⟩ := id h
  have k5 : IntKind.i64.wrap (5 * c.T) = 5 * c.T := w64 (by omega)
  have k6 : IntKind.i64.wrap (lT c + 5 * c.T) = lT c + 5 * c.T := w64 (by omega)
  have t0 : IntKind.i64.wrap (lT c + 0) = lT c + 0 := w64 (by omega)
  have t1 : IntKind.i64.wrap (lT c + 1) = lT c + 1 := w64 (by omega)
  have t2 : IntKind.i64.wrap (lT c + 2) = lT c + 2 := w64 (by omega)
  have t3 : IntKind.i64.wrap (lT c + 3) = lT c + 3 := w64 (by omega)
  have t4 : IntKind.i64.wrap (lT c + 4) = lT c + 4 := w64 (by omega)
  have q0 : ∀ k, qT (cf6 c.W c.L c.C c.T c.D c.H) a b k = qT c a b k := fun _ => rfl
  have q1 : qC (cf6 c.W c.L c.C c.T c.D c.H) a b = qC c a b := rfl
  simp only [V.holds, preA, Int.ofNat_eq_natCast, decide_eq_true_eq, decide_eq_false_iff_not, Bool.not_eq_true', Bool.not_eq_false', ge_iff_le, true_and, and_true, eq_self, forall_const, true_implies, implies_true, Nat.le_refl, Int.cast_ofNat_Int, Int.natCast_zero, Int.natCast_one, Nat.zero_lt_one, W.w1, W.w2, W.w3, W.w4, W.w5, W.w6, W.w7, W.w8, W.w10, W.w11, k5, k6, t0, t1, t2, t3, t4, q0, q1, cf_eta, bne_self_eq_false, beq_self_eq_true, Bool.and_true, Bool.and_self, Bool.not_true, Bool.not_false, false_implies, Bool.false_eq_true, Bool.true_eq_false, lS, lE, lB]
  repeat' first | exact True.intro | with_reducible apply And.intro | intro _
  all_goals first
    | omega
    | exact h
    | rfl
    | exact fit_a (n := c.H) (by omega) (by omega) (by assumption)
    | exact fit_b (n := c.H) (by omega) (by omega) (by omega) (by assumption)
    | exact fit_a (n := c.C) (by omega) (by omega) (by assumption)
    | exact fit_b (n := c.C) (by omega) (by omega) (by omega) (by assumption)
    | exact fit_a (n := c.W) (by omega) (by omega) (by assumption)
    | exact fit_b (n := c.W) (by omega) (by omega) (by omega) (by assumption)
    | exact fit_a (n := c.T) (by omega) (by omega) (by assumption)
    | exact fit_b (n := c.T) (by omega) (by omega) (by omega) (by assumption)
noncomputable section
/-- The layout that New answers. -/
def layN (c : Cf) (x : Int) : Int := if errE c = 0 then x else 0
def layV (c : Cf) : SV := .t [.a [.iv .i64 (layN c c.W), .iv .i64 (layN c c.L), .iv .i64 (layN c c.C), .iv .i64 (layN c c.T), .iv .i64 (layN c c.D), .iv .i64 (layN c c.H), .iv .i64 (layN c (lS c)), .iv .i64 (layN c (lE c)), .iv .i64 (layN c (lB c)), .iv .i64 (layN c (lQ c)), .iv .i64 (layN c (lT c))], .c (.iv .i64 (errE c))]
def conNw : Con := Con.add 58 conErr con3
theorem conNw_ok : ConOK P conNw := .add conErr58 con3_ok
def verNew (c : Cf) : V := verF P conNw 3 3 34 [] .nil [argC c] ⟨hC c, 3, fun _ => True⟩ (finV (X := Unit) 3 3 (fun _ _ => some ()) (fun _ _ => []) (fun _ => True) (fun _ => layV c) (fun _ => []))
def verAwake6 : V := verF P con7 6 8 35 [] .nil [] ⟨[], 0, fun _ => True⟩ ((PS.one 0 (fun _ _ => []) (.c (.kb true)) []).fin 0)
end
end Go.Proofs.Ytjpnpaboahbncaa.Vc

/- layout: the conditions, printed by program. -/
set_option linter.unusedVariables false
set_option maxRecDepth 100000
namespace Go.Proofs.Ytjpnpaboahbncaa.Vc
open Go Go.RowKit Sx Cn Dc Ck

theorem verNew_eq (c : Cf) : verNew c =
  V.need (c.W = c.W)
    (V.need (c.L = c.L)
    (V.need (c.C = c.C)
    (V.need (c.T = c.T)
    (V.need (c.D = c.D)
    (V.need (c.H = c.H)
    (V.need (c.B = c.B)
    (V.need (c.A = c.A)
    (V.need (c.P = c.P)
    (V.need (c.nP = c.nP)
    (V.need (c.rc = c.rc)
    (V.need (c.nU = c.nU)
    (V.need (c.cu = c.cu)
    (V.need (1 ≤ 1)
    (V.need (∀ (i : Nat), i < 1 → c.nP ≤ c.nP)
    (V.need (∀ (i e : Nat), i < 1 ∧ e < c.nP → e = e)
    (V.need (∀ (i e : Nat), i < 1 ∧ e < c.nP → c.lenP e = c.lenP e)
    (V.need (∀ (i e : Nat), i < 1 ∧ e < c.nP → c.FC e = c.FC e)
    (V.need (1 ≤ 1)
    (V.need (∀ (i : Nat), i < 1 → c.nU ≤ c.nU)
    (V.need (∀ (i e : Nat), i < 1 ∧ e < c.nU → c.uP e = c.uP e)
    (V.need (∀ (i e : Nat), i < 1 ∧ e < c.nU → c.uL e = c.uL e)
    (V.need (∀ (i e : Nat), i < 1 ∧ e < c.nU → c.uD e = c.uD e)
    (V.need (c.nP ≤ c.nP)
    (V.need (∀ (i : Nat), i < c.nP → c.lenP i ≤ c.lenP i)
    (V.need (∀ (i e : Nat), i < c.nP ∧ e < c.lenP i → c.iO i e = c.iO i e)
    (V.need (∀ (i e : Nat), i < c.nP ∧ e < c.lenP i → c.iA i e = c.iA i e)
    (V.need (∀ (i e : Nat), i < c.nP ∧ e < c.lenP i → c.iB i e = c.iB i e)
    (V.need True
    (V.br (errE (Cf.mk c.W c.L c.C c.T c.D c.H c.B c.A c.P c.nP c.rc c.nU c.cu (fun (e : Nat) => c.lenP e) (fun (e : Nat) => c.FC e) (fun (i e : Nat) => c.iO i e) (fun (i e : Nat) => c.iA i e) (fun (i e : Nat) => c.iB i e) (fun (e : Nat) => c.uP e) (fun (e : Nat) => c.uL e) fun (e : Nat) => c.uD e) != Int.ofNat 0)
    (V.need True
    (V.need (Int.ofNat 0 = layN c c.W)
    (V.need (Int.ofNat 0 = layN c c.L)
    (V.need (Int.ofNat 0 = layN c c.C)
    (V.need (Int.ofNat 0 = layN c c.T)
    (V.need (Int.ofNat 0 = layN c c.D)
    (V.need (Int.ofNat 0 = layN c c.H)
    (V.need (Int.ofNat 0 = layN c (lS c))
    (V.need (Int.ofNat 0 = layN c (lE c))
    (V.need (Int.ofNat 0 = layN c (lB c))
    (V.need (Int.ofNat 0 = layN c (lQ c))
    (V.need (Int.ofNat 0 = layN c (lT c))
    (V.need (errE (Cf.mk c.W c.L c.C c.T c.D c.H c.B c.A c.P c.nP c.rc c.nU c.cu (fun (e : Nat) => c.lenP e) (fun (e : Nat) => c.FC e) (fun (i e : Nat) => c.iO i e) (fun (i e : Nat) => c.iA i e) (fun (i e : Nat) => c.iB i e) (fun (e : Nat) => c.uP e) (fun (e : Nat) => c.uL e) fun (e : Nat) => c.uD e) = errE c) V.ok)))))))))))))
    (V.need True
    (V.need (c.W = layN c c.W)
    (V.need (c.L = layN c c.L)
    (V.need (c.C = layN c c.C)
    (V.need (c.T = layN c c.T)
    (V.need (c.D = layN c c.D)
    (V.need (c.H = layN c c.H)
    (V.need (IntKind.i64.wrap (Int.ofNat 4 + c.H) = layN c (lS c))
    (V.need (IntKind.i64.wrap (IntKind.i64.wrap (Int.ofNat 4 + c.H) + c.C) = layN c (lE c))
    (V.need (IntKind.i64.wrap (IntKind.i64.wrap (IntKind.i64.wrap (Int.ofNat 4 + c.H) + c.C) + c.W) = layN c (lB c))
    (V.need (IntKind.i64.wrap (IntKind.i64.wrap (IntKind.i64.wrap (IntKind.i64.wrap (Int.ofNat 4 + c.H) + c.C) + c.W) + c.W) = layN c (lQ c))
    (V.need (IntKind.i64.wrap (IntKind.i64.wrap (IntKind.i64.wrap (IntKind.i64.wrap (IntKind.i64.wrap (Int.ofNat 4 + c.H) + c.C) + c.W) + c.W) + IntKind.i64.wrap (IntKind.i64.wrap (c.W * c.L) * IntKind.i64.wrap (Int.ofNat 2 + c.D))) = layN c (lT c))
    (V.need (Int.ofNat 0 = errE c) V.ok)))))))))))))))))))))))))))))))))))))))))) := by kernel_rfl

theorem verAwake6_eq  : verAwake6 =
  V.need (0 < 1 ∧ 0 < 1)
    (V.need (0 < 1 ∧ 0 < 1)
    (V.need (0 < 1 ∧ 0 < 1)
    (V.need (0 < 1 ∧ 0 < 1)
    (V.need (0 < 1 ∧ 0 < 1)
    (V.need (0 < 1 ∧ 0 < 1)
    (V.need (0 < 1 ∧ 0 < 1)
    (V.need (0 < 1 ∧ 0 < 1)
    (V.need (0 < 1 ∧ 0 < 1)
    (V.need (0 < 1 ∧ 0 < 1)
    (V.need (0 < 1 ∧ 0 < 1)
    (V.need (0 < 1 ∧ 0 < 1)
    (V.need (0 < 1 ∧ 0 < 1)
    (V.need (0 < 1 ∧ 0 < 1)
    (V.need (0 < 1 ∧ 0 < 1)
    (V.need (0 < 1 ∧ 0 < 1)
    (V.need (0 < 1 ∧ 0 < 1)
    (V.need (0 < 1 ∧ 0 < 1)
    (V.need (0 < 1 ∧ 0 < 1)
    (V.need (0 < 1 ∧ 0 < 1)
    (V.need (0 < 1 ∧ 0 < 1)
    (V.need (0 < 1 ∧ 0 < 1)
    (V.need (0 < 1 ∧ 0 < 1)
    (V.need (0 < 1 ∧ 0 < 1)
    (V.need (0 < 1 ∧ 0 < 1)
    (V.need (0 < 1 ∧ 0 < 1)
    (V.need (0 < 1 ∧ 0 < 1)
    (V.need (0 < 1 ∧ 0 < 1)
    (V.need (0 < 1 ∧ 0 < 1)
    (V.need (0 < 1 ∧ 0 < 1)
    (V.need (0 < 1 ∧ 0 < 1)
    (V.need (0 < 1 ∧ 0 < 1)
    (V.need (0 < 1 ∧ 0 < 1)
    (V.need (0 < 1 ∧ 0 < 1)
    (V.need (0 < 1 ∧ 0 < 1)
    (V.need (0 < 1 ∧ 0 < 1)
    (V.need (0 < 1 ∧ 0 < 1)
    (V.need (0 < 1 ∧ 0 < 1)
    (V.need (0 < 1 ∧ 0 < 1)
    (V.need (0 < 1 ∧ 0 < 1)
    (V.need (0 < 1 ∧ 0 < 1)
    (V.need (0 < 1 ∧ 0 < 1)
    (V.need (0 < 1 ∧ 0 < 1)
    (V.need (0 < 1 ∧ 0 < 1)
    (V.need (0 < 1 ∧ 0 < 1)
    (V.need (0 < 1 ∧ 0 < 1)
    (V.need (0 < 1 ∧ 0 < 1)
    (V.need (0 < 1 ∧ 0 < 1)
    (V.need (0 < 1 ∧ 0 < 1)
    (V.need (0 < 1 ∧ 0 < 1)
    (V.need (0 < 1 ∧ 0 < 1)
    (V.need (0 < 1 ∧ 0 < 1)
    (V.need (0 < 1 ∧ 0 < 1)
    (V.need (0 < 1 ∧ 0 < 1)
    (V.need (0 < 1 ∧ 0 < 1)
    (V.need (0 < 1 ∧ 0 < 1)
    (V.need (0 < 1 ∧ 0 < 1)
    (V.need (0 < 1 ∧ 0 < 1)
    (V.need (0 < 1 ∧ 0 < 1)
    (V.need (0 < 1 ∧ 0 < 1)
    (V.need (0 < 1 ∧ 0 < 1)
    (V.need (0 < 1 ∧ 0 < 1)
    (V.need (0 < 1 ∧ 0 < 1)
    (V.need (0 < 1 ∧ 0 < 1)
    (V.need (0 < 1 ∧ 0 < 1)
    (V.need (0 < 1 ∧ 0 < 1)
    (V.need (0 < 1)
    (V.need (1 ≤ 9223372036854775807 ∧ 24 ≤ 140737488355328)
    (V.any Nat (fun (x : Nat) => 1 ≤ x) fun (x : Nat) => V.need (0 < 1 ∧ 0 < 1)
    (V.need (0 < 1 ∧ 0 < 1)
    (V.need (0 < 1 ∧ 0 < 1)
    (V.need (0 < 1 ∧ 0 < 1)
    (V.need (0 < 1 ∧ 0 < 1)
    (V.need (0 < 1 ∧ 0 < 1)
    (V.br true
    (V.br true
    (V.br true
    (V.br true
    (V.br true
    (V.br true
    (V.br true
    (V.br true
    (V.br false
    (V.need True
    (V.need (false = true) V.ok))
    (V.br false
    (V.need True
    (V.need (false = true) V.ok))
    (V.need (0 < 1)
    (V.need (0 < 1)
    (V.need True V.ok)))))
    (V.need True
    (V.need (false = true) V.ok)))
    (V.need True
    (V.need (false = true) V.ok)))
    (V.need True
    (V.need (false = true) V.ok)))
    (V.need True
    (V.need (false = true) V.ok)))
    (V.need True
    (V.need (false = true) V.ok)))
    (V.need True
    (V.need (false = true) V.ok)))
    (V.need True
    (V.need (false = true) V.ok)))
    (V.need True
    (V.need (false = true) V.ok)))))))))))))))))))))))))))))))))))))))))))))))))))))))))))))))))))))))))))) := by kernel_rfl


end Go.Proofs.Ytjpnpaboahbncaa.Vc

/- layout.New, for any configuration: the contract; LayoutCells: the law. -/
set_option linter.unusedVariables false
set_option linter.unusedSimpArgs false
set_option maxRecDepth 100000
namespace Go.Proofs.Ytjpnpaboahbncaa.Vc
open Go Go.RowKit Sx Cn Dc Ck
theorem layN_0 {c : Cf} {x : Int} (h : ¬ errE c = 0) : 0 = layN c x := by unfold layN; rw [if_neg h]
theorem layN_1 {c : Cf} {x : Int} (h : errE c = 0) : x = layN c x := by unfold layN; rw [if_pos h]
theorem okY_of {c : Cf} (h : errE c = 0) : okY c := okN_Y ((err_zero c).1 h).1
theorem vhNew (c : Cf) (_ : True) : VHolds (verNew c) := by
  constructor
  rw [verNew_eq]
  simp only [V.holds, Int.ofNat_eq_natCast, decide_eq_true_eq, decide_eq_false_iff_not, Bool.not_eq_true', Bool.not_eq_false', bne_iff_ne, bne_eq_false_iff_eq, ge_iff_le, true_and, and_true, eq_self, forall_const, true_implies, implies_true, Nat.le_refl, Int.cast_ofNat_Int, Int.natCast_zero, Nat.zero_lt_one, Nat.zero_add, cf_eta, ne_eq]
  refine ⟨fun h => ?_, fun h => ?_⟩
  · have z : ∀ x, 0 = layN c x := fun x => layN_0 h
    exact ⟨z _, z _, z _, z _, z _, z _, z _, z _, z _, z _, z _⟩
  · have W := wy (okY_of h)
    have z : ∀ x, x = layN c x := fun x => layN_1 h
    simp only [W.w1, W.w2, W.w5, W.w6, W.w7, W.w8, W.w10, W.w11]
    exact ⟨z _, z _, z _, z _, z _, z _, z _, z _, z _, z _, z _, h.symm⟩
theorem vhAwake6 (h : True) : VHolds verAwake6 := by
  constructor
  rw [verAwake6_eq]
  simp only [V.holds, Int.ofNat_eq_natCast, decide_eq_true_eq, decide_eq_false_iff_not, Bool.not_eq_true', Bool.not_eq_false', bne_iff_ne, bne_eq_false_iff_eq, beq_iff_eq, beq_eq_false_iff_ne, ne_eq, true_and, and_true, forall_const, true_implies, implies_true, Nat.zero_add, Nat.sub_zero, Nat.lt_add_one, Nat.zero_lt_one, Int.natCast_zero, Int.natCast_one, Int.cast_ofNat_Int, gt_iff_lt, and_self, eq_self, Nat.le_refl]
  repeat' first | exact True.intro | with_reducible apply And.intro | intro _
  all_goals first
    | contradiction
    | omega
    | decide
noncomputable section
def conNew : List SV → Hp → Out (SV × Hp) := conCfP fun c => .need True (.leaf (layV c, ⟨[], 3, fun _ => True⟩))
theorem conNew_ok : ContractOK P 34 conNew := conCfP_ok fun c => local_of_ver0 conNw_ok (vhNew c)
def conAwake6 : List SV → Hp → Out (SV × Hp) := fun args H => match args with
  | [] => useP [] 0 [] [] (.need True (PS.one 0 (fun _ _ => []) (.c (.kb true)) []).out) args H
  | _ => .bad 422
theorem conAwake6_ok : ContractOK P 35 conAwake6 := contract_of_useP fun args H => by
  unfold conAwake6
  split
  · exact .inr ⟨_, _, _, _, _, rfl, local_of_ps con7_ok vhAwake6⟩
  · exact .inl ⟨_, rfl⟩
def conCells : List SV → Hp → Out (SV × Hp) := fun args H => match args with
  | [s, _, .c a, .c b] => match rdCf s H.h, numC a, numC b with
    | some p, some a, some b => match three p.2 with
      | some k => fN k.1 fun k0 => fN k.2.1 fun k1 => fN k.2.2 fun k2 => useP [k0, k1, k2] 3 [argC p.1, layA p.1, iv a, iv b] (hC p.1) (.need (okY p.1) (.leaf (.c (.kb true), ⟨[], 3, fun _ => True⟩))) args H
      | none => .bad 455
    | _, _, _ => .bad 456
  | _ => .bad 457
theorem conCells_ok : ContractOK P 43 conCells := contract_of_useP fun args H => by
  unfold conCells
  simp only [fN_eq]
  repeat' split
  all_goals first
    | exact .inl ⟨_, rfl⟩
    | exact .inr ⟨_, _, _, _, _, rfl, local_of_ver0 conY2_ok fun h => vhCells h⟩
def conLL : Con := Con.add 34 conNew (Con.add 35 conAwake6 (Con.add 43 conCells (Con.add 56 conDec (Con.add 44 conErr con7))))
theorem conLL_ok : ConOK P conLL := .add conNew_ok (.add conAwake6_ok (.add conCells_ok (.add conDec_ok (.add conErr44 con7_ok))))
def fL14 (s : St) : Option (LA Int) := some ⟨[], fun _ => [], [12], fun i => [iv i], intT 12, fun x => -1 ≤ x ∧ x ≤ 14, fun x => (14 - x).toNat⟩
def verLayC (c : Cf) (g : Nat → Int) (len cap : Nat) (i k : Int) : V := verF P conLL 3 4 9 [] (.loop Int [] fL14 .nil .nil) [.c (slK 0 1 len cap), argCm 1 c, iv i, iv k] ⟨[(0, ints .u8 len g)] ++ hCm 1 c, 4, fun _ => True⟩ yesV
end
end Go.Proofs.Ytjpnpaboahbncaa.Vc

/- LayoutCells: the conditions, printed by program. -/
set_option linter.unusedVariables false
set_option maxRecDepth 100000
namespace Go.Proofs.Ytjpnpaboahbncaa.Vc
open Go Go.RowKit Sx Cn Dc Ck

set_option maxHeartbeats 8000000 in
theorem verLayC_eq (c : Cf) (g : Nat → Int) (len cap : Nat) (i k : Int) : verLayC c g len cap i k =
  V.br (!decide ((↑len : Int) ≤ Int.ofNat 400)) V.ok
    (V.br (decide ((↑c.nP : Int) > Int.ofNat 50)) V.ok
    (V.br (decide ((↑c.nU : Int) > Int.ofNat 100)) V.ok
    (V.need (len = len)
    (V.need (cap = cap)
    (V.need (1 ≤ 1)
    (V.need (∀ (i : Nat), i < 1 → len ≤ len)
    (V.need (∀ (i e : Nat), i < 1 ∧ e < len → g e = g e)
    (V.need (U8 len fun (e : Nat) => g e)
    (V.need (∃ (x : Cf), IsDec (fun (e : Nat) => g e) len x)
    (V.any Cf (IsDec (fun (e : Nat) => g e) len) fun (x : Cf) => V.need (x.W = x.W)
    (V.need (x.L = x.L)
    (V.need (x.C = x.C)
    (V.need (x.T = x.T)
    (V.need (x.D = x.D)
    (V.need (x.H = x.H)
    (V.need (x.B = x.B)
    (V.need (x.A = x.A)
    (V.need (x.P = x.P)
    (V.need (x.nP = x.nP)
    (V.need (x.rc = x.rc)
    (V.need (x.nU = x.nU)
    (V.need (x.cu = x.cu)
    (V.need (1 ≤ 1)
    (V.need (x.nP ≤ x.nP ∧ x.nP ≤ x.rc)
    (V.need (∀ (i e : Nat), i = 0 ∧ e < x.nP → e = e)
    (V.need (∀ (i e : Nat), i = 0 ∧ e < x.nP → x.lenP e = x.lenP e)
    (V.need (∀ (i e : Nat), i = 0 ∧ e < x.nP → x.FC e = x.FC e)
    (V.need (1 ≤ 1)
    (V.need (x.nU ≤ x.nU ∧ x.nU ≤ x.cu)
    (V.need (∀ (i e : Nat), i = 0 ∧ e < x.nU → x.uP e = x.uP e)
    (V.need (∀ (i e : Nat), i = 0 ∧ e < x.nU → x.uL e = x.uL e)
    (V.need (∀ (i e : Nat), i = 0 ∧ e < x.nU → x.uD e = x.uD e)
    (V.need (∀ (i : Nat), i < x.nP → x.lenP i ≤ gd x.nP x.lenP i ∧ x.lenP i ≤ gd x.nP x.FC i)
    (V.need (∀ (i e : Nat), i < x.nP ∧ e < x.lenP i → x.iO i e = x.iO i e)
    (V.need (∀ (i e : Nat), i < x.nP ∧ e < x.lenP i → x.iA i e = x.iA i e)
    (V.need (∀ (i e : Nat), i < x.nP ∧ e < x.lenP i → x.iB i e = x.iB i e)
    (V.need True
    (V.need True
    (V.br (errE (Cf.mk x.W x.L x.C x.T x.D x.H x.B x.A x.P x.nP x.rc x.nU x.cu (fun (e : Nat) => x.lenP e) (fun (e : Nat) => x.FC e) (fun (i e : Nat) => x.iO i e) (fun (i e : Nat) => x.iA i e) (fun (i e : Nat) => x.iB i e) (fun (e : Nat) => x.uP e) (fun (e : Nat) => x.uL e) fun (e : Nat) => x.uD e) != Int.ofNat 0)
    (V.bad 420)
    (V.need (x.W = x.W)
    (V.need (x.L = x.L)
    (V.need (x.C = x.C)
    (V.need (x.T = x.T)
    (V.need (x.D = x.D)
    (V.need (x.H = x.H)
    (V.need (x.B = x.B)
    (V.need (x.A = x.A)
    (V.need (x.P = x.P)
    (V.need (x.nP = x.nP)
    (V.need (x.rc = x.rc)
    (V.need (x.nU = x.nU)
    (V.need (x.cu = x.cu)
    (V.need (layN (Cf.mk x.W x.L x.C x.T x.D x.H x.B x.A x.P x.nP x.rc x.nU x.cu (fun (e : Nat) => x.lenP e) (fun (e : Nat) => x.FC e) (fun (i e : Nat) => x.iO i e) (fun (i e : Nat) => x.iA i e) (fun (i e : Nat) => x.iB i e) (fun (e : Nat) => x.uP e) (fun (e : Nat) => x.uL e) fun (e : Nat) => x.uD e) x.W = x.W)
    (V.need (layN (Cf.mk x.W x.L x.C x.T x.D x.H x.B x.A x.P x.nP x.rc x.nU x.cu (fun (e : Nat) => x.lenP e) (fun (e : Nat) => x.FC e) (fun (i e : Nat) => x.iO i e) (fun (i e : Nat) => x.iA i e) (fun (i e : Nat) => x.iB i e) (fun (e : Nat) => x.uP e) (fun (e : Nat) => x.uL e) fun (e : Nat) => x.uD e) x.L = x.L)
    (V.need (layN (Cf.mk x.W x.L x.C x.T x.D x.H x.B x.A x.P x.nP x.rc x.nU x.cu (fun (e : Nat) => x.lenP e) (fun (e : Nat) => x.FC e) (fun (i e : Nat) => x.iO i e) (fun (i e : Nat) => x.iA i e) (fun (i e : Nat) => x.iB i e) (fun (e : Nat) => x.uP e) (fun (e : Nat) => x.uL e) fun (e : Nat) => x.uD e) x.C = x.C)
    (V.need (layN (Cf.mk x.W x.L x.C x.T x.D x.H x.B x.A x.P x.nP x.rc x.nU x.cu (fun (e : Nat) => x.lenP e) (fun (e : Nat) => x.FC e) (fun (i e : Nat) => x.iO i e) (fun (i e : Nat) => x.iA i e) (fun (i e : Nat) => x.iB i e) (fun (e : Nat) => x.uP e) (fun (e : Nat) => x.uL e) fun (e : Nat) => x.uD e) x.T = x.T)
    (V.need (layN (Cf.mk x.W x.L x.C x.T x.D x.H x.B x.A x.P x.nP x.rc x.nU x.cu (fun (e : Nat) => x.lenP e) (fun (e : Nat) => x.FC e) (fun (i e : Nat) => x.iO i e) (fun (i e : Nat) => x.iA i e) (fun (i e : Nat) => x.iB i e) (fun (e : Nat) => x.uP e) (fun (e : Nat) => x.uL e) fun (e : Nat) => x.uD e) x.D = x.D)
    (V.need (layN (Cf.mk x.W x.L x.C x.T x.D x.H x.B x.A x.P x.nP x.rc x.nU x.cu (fun (e : Nat) => x.lenP e) (fun (e : Nat) => x.FC e) (fun (i e : Nat) => x.iO i e) (fun (i e : Nat) => x.iA i e) (fun (i e : Nat) => x.iB i e) (fun (e : Nat) => x.uP e) (fun (e : Nat) => x.uL e) fun (e : Nat) => x.uD e) x.H = x.H)
    (V.need (layN (Cf.mk x.W x.L x.C x.T x.D x.H x.B x.A x.P x.nP x.rc x.nU x.cu (fun (e : Nat) => x.lenP e) (fun (e : Nat) => x.FC e) (fun (i e : Nat) => x.iO i e) (fun (i e : Nat) => x.iA i e) (fun (i e : Nat) => x.iB i e) (fun (e : Nat) => x.uP e) (fun (e : Nat) => x.uL e) fun (e : Nat) => x.uD e) (lS (Cf.mk x.W x.L x.C x.T x.D x.H x.B x.A x.P x.nP x.rc x.nU x.cu (fun (e : Nat) => x.lenP e) (fun (e : Nat) => x.FC e) (fun (i e : Nat) => x.iO i e) (fun (i e : Nat) => x.iA i e) (fun (i e : Nat) => x.iB i e) (fun (e : Nat) => x.uP e) (fun (e : Nat) => x.uL e) fun (e : Nat) => x.uD e)) = lS (Cf.mk x.W x.L x.C x.T x.D x.H x.B x.A x.P x.nP x.rc x.nU x.cu (fun (e : Nat) => x.lenP e) (fun (e : Nat) => x.FC e) (fun (i e : Nat) => x.iO i e) (fun (i e : Nat) => x.iA i e) (fun (i e : Nat) => x.iB i e) (fun (e : Nat) => x.uP e) (fun (e : Nat) => x.uL e) fun (e : Nat) => x.uD e))
    (V.need (layN (Cf.mk x.W x.L x.C x.T x.D x.H x.B x.A x.P x.nP x.rc x.nU x.cu (fun (e : Nat) => x.lenP e) (fun (e : Nat) => x.FC e) (fun (i e : Nat) => x.iO i e) (fun (i e : Nat) => x.iA i e) (fun (i e : Nat) => x.iB i e) (fun (e : Nat) => x.uP e) (fun (e : Nat) => x.uL e) fun (e : Nat) => x.uD e) (lE (Cf.mk x.W x.L x.C x.T x.D x.H x.B x.A x.P x.nP x.rc x.nU x.cu (fun (e : Nat) => x.lenP e) (fun (e : Nat) => x.FC e) (fun (i e : Nat) => x.iO i e) (fun (i e : Nat) => x.iA i e) (fun (i e : Nat) => x.iB i e) (fun (e : Nat) => x.uP e) (fun (e : Nat) => x.uL e) fun (e : Nat) => x.uD e)) = lE (Cf.mk x.W x.L x.C x.T x.D x.H x.B x.A x.P x.nP x.rc x.nU x.cu (fun (e : Nat) => x.lenP e) (fun (e : Nat) => x.FC e) (fun (i e : Nat) => x.iO i e) (fun (i e : Nat) => x.iA i e) (fun (i e : Nat) => x.iB i e) (fun (e : Nat) => x.uP e) (fun (e : Nat) => x.uL e) fun (e : Nat) => x.uD e))
    (V.need (layN (Cf.mk x.W x.L x.C x.T x.D x.H x.B x.A x.P x.nP x.rc x.nU x.cu (fun (e : Nat) => x.lenP e) (fun (e : Nat) => x.FC e) (fun (i e : Nat) => x.iO i e) (fun (i e : Nat) => x.iA i e) (fun (i e : Nat) => x.iB i e) (fun (e : Nat) => x.uP e) (fun (e : Nat) => x.uL e) fun (e : Nat) => x.uD e) (lB (Cf.mk x.W x.L x.C x.T x.D x.H x.B x.A x.P x.nP x.rc x.nU x.cu (fun (e : Nat) => x.lenP e) (fun (e : Nat) => x.FC e) (fun (i e : Nat) => x.iO i e) (fun (i e : Nat) => x.iA i e) (fun (i e : Nat) => x.iB i e) (fun (e : Nat) => x.uP e) (fun (e : Nat) => x.uL e) fun (e : Nat) => x.uD e)) = lB (Cf.mk x.W x.L x.C x.T x.D x.H x.B x.A x.P x.nP x.rc x.nU x.cu (fun (e : Nat) => x.lenP e) (fun (e : Nat) => x.FC e) (fun (i e : Nat) => x.iO i e) (fun (i e : Nat) => x.iA i e) (fun (i e : Nat) => x.iB i e) (fun (e : Nat) => x.uP e) (fun (e : Nat) => x.uL e) fun (e : Nat) => x.uD e))
    (V.need (layN (Cf.mk x.W x.L x.C x.T x.D x.H x.B x.A x.P x.nP x.rc x.nU x.cu (fun (e : Nat) => x.lenP e) (fun (e : Nat) => x.FC e) (fun (i e : Nat) => x.iO i e) (fun (i e : Nat) => x.iA i e) (fun (i e : Nat) => x.iB i e) (fun (e : Nat) => x.uP e) (fun (e : Nat) => x.uL e) fun (e : Nat) => x.uD e) (lQ (Cf.mk x.W x.L x.C x.T x.D x.H x.B x.A x.P x.nP x.rc x.nU x.cu (fun (e : Nat) => x.lenP e) (fun (e : Nat) => x.FC e) (fun (i e : Nat) => x.iO i e) (fun (i e : Nat) => x.iA i e) (fun (i e : Nat) => x.iB i e) (fun (e : Nat) => x.uP e) (fun (e : Nat) => x.uL e) fun (e : Nat) => x.uD e)) = lQ (Cf.mk x.W x.L x.C x.T x.D x.H x.B x.A x.P x.nP x.rc x.nU x.cu (fun (e : Nat) => x.lenP e) (fun (e : Nat) => x.FC e) (fun (i e : Nat) => x.iO i e) (fun (i e : Nat) => x.iA i e) (fun (i e : Nat) => x.iB i e) (fun (e : Nat) => x.uP e) (fun (e : Nat) => x.uL e) fun (e : Nat) => x.uD e))
    (V.need (layN (Cf.mk x.W x.L x.C x.T x.D x.H x.B x.A x.P x.nP x.rc x.nU x.cu (fun (e : Nat) => x.lenP e) (fun (e : Nat) => x.FC e) (fun (i e : Nat) => x.iO i e) (fun (i e : Nat) => x.iA i e) (fun (i e : Nat) => x.iB i e) (fun (e : Nat) => x.uP e) (fun (e : Nat) => x.uL e) fun (e : Nat) => x.uD e) (lT (Cf.mk x.W x.L x.C x.T x.D x.H x.B x.A x.P x.nP x.rc x.nU x.cu (fun (e : Nat) => x.lenP e) (fun (e : Nat) => x.FC e) (fun (i e : Nat) => x.iO i e) (fun (i e : Nat) => x.iA i e) (fun (i e : Nat) => x.iB i e) (fun (e : Nat) => x.uP e) (fun (e : Nat) => x.uL e) fun (e : Nat) => x.uD e)) = lT (Cf.mk x.W x.L x.C x.T x.D x.H x.B x.A x.P x.nP x.rc x.nU x.cu (fun (e : Nat) => x.lenP e) (fun (e : Nat) => x.FC e) (fun (i e : Nat) => x.iO i e) (fun (i e : Nat) => x.iA i e) (fun (i e : Nat) => x.iB i e) (fun (e : Nat) => x.uP e) (fun (e : Nat) => x.uL e) fun (e : Nat) => x.uD e))
    (V.need (i = i)
    (V.need (k = k)
    (V.need (1 ≤ 1)
    (V.need (x.nP ≤ x.nP ∧ x.nP ≤ x.rc)
    (V.need (∀ (i e : Nat), i = 0 ∧ e < x.nP → e = e)
    (V.need (∀ (i e : Nat), i = 0 ∧ e < x.nP → x.lenP e = x.lenP e)
    (V.need (∀ (i e : Nat), i = 0 ∧ e < x.nP → x.FC e = x.FC e)
    (V.need (1 ≤ 1)
    (V.need (x.nU ≤ x.nU ∧ x.nU ≤ x.cu)
    (V.need (∀ (i e : Nat), i = 0 ∧ e < x.nU → x.uP e = x.uP e)
    (V.need (∀ (i e : Nat), i = 0 ∧ e < x.nU → x.uL e = x.uL e)
    (V.need (∀ (i e : Nat), i = 0 ∧ e < x.nU → x.uD e = x.uD e)
    (V.need (∀ (i : Nat), i < x.nP → x.lenP i ≤ gd x.nP x.lenP i ∧ x.lenP i ≤ gd x.nP x.FC i)
    (V.need (∀ (i e : Nat), i < x.nP ∧ e < x.lenP i → x.iO i e = x.iO i e)
    (V.need (∀ (i e : Nat), i < x.nP ∧ e < x.lenP i → x.iA i e = x.iA i e)
    (V.need (∀ (i e : Nat), i < x.nP ∧ e < x.lenP i → x.iB i e = x.iB i e)
    (V.need (okY (Cf.mk x.W x.L x.C x.T x.D x.H x.B x.A x.P x.nP x.rc x.nU x.cu (fun (e : Nat) => x.lenP e) (fun (e : Nat) => x.FC e) (fun (i e : Nat) => x.iO i e) (fun (i e : Nat) => x.iA i e) (fun (i e : Nat) => x.iB i e) (fun (e : Nat) => x.uP e) (fun (e : Nat) => x.uL e) fun (e : Nat) => x.uD e))
    (V.need (-Int.ofNat 1 ≤ Int.negSucc 0 ∧ Int.negSucc 0 ≤ Int.ofNat 14)
    (V.need (Int.negSucc 0 = Int.negSucc 0)
    (V.any Int (fun (x : Int) => -Int.ofNat 1 ≤ x ∧ x ≤ Int.ofNat 14) fun (x_1 : Int) => V.br (decide (x_1 < Int.ofNat 14))
    (V.need (0 < 1 ∧ 0 < 1)
    (V.need (0 < 1 ∧ 0 < 1)
    (V.need (0 < 1 ∧ 0 < 1)
    (V.need (0 < 1 ∧ 0 < 1)
    (V.need (0 < 1 ∧ 0 < 1)
    (V.need (0 < 1 ∧ 0 < 1)
    (V.need (0 < 1 ∧ 0 < 1)
    (V.need (0 < 1 ∧ 0 < 1)
    (V.need (0 < 1 ∧ 0 < 1)
    (V.need (0 < 1 ∧ 0 < 1)
    (V.need (0 < 1 ∧ 0 < 1)
    (V.need (0 < 1 ∧ 0 < 1)
    (V.need (0 < 1 ∧ 0 < 1)
    (V.need (0 < 1 ∧ 0 < 1)
    (V.need (0 < 1 ∧ 0 < 1)
    (V.need (0 < 1 ∧ 0 < 1)
    (V.need (0 < 1 ∧ 0 < 1)
    (V.need (0 < 1 ∧ 0 < 1)
    (V.need (0 < 1 ∧ 0 < 1)
    (V.need (0 < 1 ∧ 0 < 1)
    (V.need (0 < 1 ∧ 0 < 1)
    (V.need (0 < 1 ∧ 0 < 1)
    (V.need (Int.ofNat 5 ≠ Int.ofNat 0)
    (V.need (x.W = x.W)
    (V.need (x.L = x.L)
    (V.need (x.C = x.C)
    (V.need (x.T = x.T)
    (V.need (x.D = x.D)
    (V.need (x.H = x.H)
    (V.need (x.B = x.B)
    (V.need (x.A = x.A)
    (V.need (x.P = x.P)
    (V.need (x.nP = x.nP)
    (V.need (x.rc = x.rc)
    (V.need (x.nU = x.nU)
    (V.need (x.cu = x.cu)
    (V.need (layN (Cf.mk x.W x.L x.C x.T x.D x.H x.B x.A x.P x.nP x.rc x.nU x.cu (fun (e : Nat) => x.lenP e) (fun (e : Nat) => x.FC e) (fun (i e : Nat) => x.iO i e) (fun (i e : Nat) => x.iA i e) (fun (i e : Nat) => x.iB i e) (fun (e : Nat) => x.uP e) (fun (e : Nat) => x.uL e) fun (e : Nat) => x.uD e) x.W = x.W)
    (V.need (layN (Cf.mk x.W x.L x.C x.T x.D x.H x.B x.A x.P x.nP x.rc x.nU x.cu (fun (e : Nat) => x.lenP e) (fun (e : Nat) => x.FC e) (fun (i e : Nat) => x.iO i e) (fun (i e : Nat) => x.iA i e) (fun (i e : Nat) => x.iB i e) (fun (e : Nat) => x.uP e) (fun (e : Nat) => x.uL e) fun (e : Nat) => x.uD e) x.L = x.L)
    (V.need (layN (Cf.mk x.W x.L x.C x.T x.D x.H x.B x.A x.P x.nP x.rc x.nU x.cu (fun (e : Nat) => x.lenP e) (fun (e : Nat) => x.FC e) (fun (i e : Nat) => x.iO i e) (fun (i e : Nat) => x.iA i e) (fun (i e : Nat) => x.iB i e) (fun (e : Nat) => x.uP e) (fun (e : Nat) => x.uL e) fun (e : Nat) => x.uD e) x.C = x.C)
    (V.need (layN (Cf.mk x.W x.L x.C x.T x.D x.H x.B x.A x.P x.nP x.rc x.nU x.cu (fun (e : Nat) => x.lenP e) (fun (e : Nat) => x.FC e) (fun (i e : Nat) => x.iO i e) (fun (i e : Nat) => x.iA i e) (fun (i e : Nat) => x.iB i e) (fun (e : Nat) => x.uP e) (fun (e : Nat) => x.uL e) fun (e : Nat) => x.uD e) x.T = x.T)
    (V.need (layN (Cf.mk x.W x.L x.C x.T x.D x.H x.B x.A x.P x.nP x.rc x.nU x.cu (fun (e : Nat) => x.lenP e) (fun (e : Nat) => x.FC e) (fun (i e : Nat) => x.iO i e) (fun (i e : Nat) => x.iA i e) (fun (i e : Nat) => x.iB i e) (fun (e : Nat) => x.uP e) (fun (e : Nat) => x.uL e) fun (e : Nat) => x.uD e) x.D = x.D)
    (V.need (layN (Cf.mk x.W x.L x.C x.T x.D x.H x.B x.A x.P x.nP x.rc x.nU x.cu (fun (e : Nat) => x.lenP e) (fun (e : Nat) => x.FC e) (fun (i e : Nat) => x.iO i e) (fun (i e : Nat) => x.iA i e) (fun (i e : Nat) => x.iB i e) (fun (e : Nat) => x.uP e) (fun (e : Nat) => x.uL e) fun (e : Nat) => x.uD e) x.H = x.H)
    (V.need (layN (Cf.mk x.W x.L x.C x.T x.D x.H x.B x.A x.P x.nP x.rc x.nU x.cu (fun (e : Nat) => x.lenP e) (fun (e : Nat) => x.FC e) (fun (i e : Nat) => x.iO i e) (fun (i e : Nat) => x.iA i e) (fun (i e : Nat) => x.iB i e) (fun (e : Nat) => x.uP e) (fun (e : Nat) => x.uL e) fun (e : Nat) => x.uD e) (lS (Cf.mk x.W x.L x.C x.T x.D x.H x.B x.A x.P x.nP x.rc x.nU x.cu (fun (e : Nat) => x.lenP e) (fun (e : Nat) => x.FC e) (fun (i e : Nat) => x.iO i e) (fun (i e : Nat) => x.iA i e) (fun (i e : Nat) => x.iB i e) (fun (e : Nat) => x.uP e) (fun (e : Nat) => x.uL e) fun (e : Nat) => x.uD e)) = lS (Cf.mk x.W x.L x.C x.T x.D x.H x.B x.A x.P x.nP x.rc x.nU x.cu (fun (e : Nat) => x.lenP e) (fun (e : Nat) => x.FC e) (fun (i e : Nat) => x.iO i e) (fun (i e : Nat) => x.iA i e) (fun (i e : Nat) => x.iB i e) (fun (e : Nat) => x.uP e) (fun (e : Nat) => x.uL e) fun (e : Nat) => x.uD e))
    (V.need (layN (Cf.mk x.W x.L x.C x.T x.D x.H x.B x.A x.P x.nP x.rc x.nU x.cu (fun (e : Nat) => x.lenP e) (fun (e : Nat) => x.FC e) (fun (i e : Nat) => x.iO i e) (fun (i e : Nat) => x.iA i e) (fun (i e : Nat) => x.iB i e) (fun (e : Nat) => x.uP e) (fun (e : Nat) => x.uL e) fun (e : Nat) => x.uD e) (lE (Cf.mk x.W x.L x.C x.T x.D x.H x.B x.A x.P x.nP x.rc x.nU x.cu (fun (e : Nat) => x.lenP e) (fun (e : Nat) => x.FC e) (fun (i e : Nat) => x.iO i e) (fun (i e : Nat) => x.iA i e) (fun (i e : Nat) => x.iB i e) (fun (e : Nat) => x.uP e) (fun (e : Nat) => x.uL e) fun (e : Nat) => x.uD e)) = lE (Cf.mk x.W x.L x.C x.T x.D x.H x.B x.A x.P x.nP x.rc x.nU x.cu (fun (e : Nat) => x.lenP e) (fun (e : Nat) => x.FC e) (fun (i e : Nat) => x.iO i e) (fun (i e : Nat) => x.iA i e) (fun (i e : Nat) => x.iB i e) (fun (e : Nat) => x.uP e) (fun (e : Nat) => x.uL e) fun (e : Nat) => x.uD e))
    (V.need (layN (Cf.mk x.W x.L x.C x.T x.D x.H x.B x.A x.P x.nP x.rc x.nU x.cu (fun (e : Nat) => x.lenP e) (fun (e : Nat) => x.FC e) (fun (i e : Nat) => x.iO i e) (fun (i e : Nat) => x.iA i e) (fun (i e : Nat) => x.iB i e) (fun (e : Nat) => x.uP e) (fun (e : Nat) => x.uL e) fun (e : Nat) => x.uD e) (lB (Cf.mk x.W x.L x.C x.T x.D x.H x.B x.A x.P x.nP x.rc x.nU x.cu (fun (e : Nat) => x.lenP e) (fun (e : Nat) => x.FC e) (fun (i e : Nat) => x.iO i e) (fun (i e : Nat) => x.iA i e) (fun (i e : Nat) => x.iB i e) (fun (e : Nat) => x.uP e) (fun (e : Nat) => x.uL e) fun (e : Nat) => x.uD e)) = lB (Cf.mk x.W x.L x.C x.T x.D x.H x.B x.A x.P x.nP x.rc x.nU x.cu (fun (e : Nat) => x.lenP e) (fun (e : Nat) => x.FC e) (fun (i e : Nat) => x.iO i e) (fun (i e : Nat) => x.iA i e) (fun (i e : Nat) => x.iB i e) (fun (e : Nat) => x.uP e) (fun (e : Nat) => x.uL e) fun (e : Nat) => x.uD e))
    (V.need (layN (Cf.mk x.W x.L x.C x.T x.D x.H x.B x.A x.P x.nP x.rc x.nU x.cu (fun (e : Nat) => x.lenP e) (fun (e : Nat) => x.FC e) (fun (i e : Nat) => x.iO i e) (fun (i e : Nat) => x.iA i e) (fun (i e : Nat) => x.iB i e) (fun (e : Nat) => x.uP e) (fun (e : Nat) => x.uL e) fun (e : Nat) => x.uD e) (lQ (Cf.mk x.W x.L x.C x.T x.D x.H x.B x.A x.P x.nP x.rc x.nU x.cu (fun (e : Nat) => x.lenP e) (fun (e : Nat) => x.FC e) (fun (i e : Nat) => x.iO i e) (fun (i e : Nat) => x.iA i e) (fun (i e : Nat) => x.iB i e) (fun (e : Nat) => x.uP e) (fun (e : Nat) => x.uL e) fun (e : Nat) => x.uD e)) = lQ (Cf.mk x.W x.L x.C x.T x.D x.H x.B x.A x.P x.nP x.rc x.nU x.cu (fun (e : Nat) => x.lenP e) (fun (e : Nat) => x.FC e) (fun (i e : Nat) => x.iO i e) (fun (i e : Nat) => x.iA i e) (fun (i e : Nat) => x.iB i e) (fun (e : Nat) => x.uP e) (fun (e : Nat) => x.uL e) fun (e : Nat) => x.uD e))
    (V.need (layN (Cf.mk x.W x.L x.C x.T x.D x.H x.B x.A x.P x.nP x.rc x.nU x.cu (fun (e : Nat) => x.lenP e) (fun (e : Nat) => x.FC e) (fun (i e : Nat) => x.iO i e) (fun (i e : Nat) => x.iA i e) (fun (i e : Nat) => x.iB i e) (fun (e : Nat) => x.uP e) (fun (e : Nat) => x.uL e) fun (e : Nat) => x.uD e) (lT (Cf.mk x.W x.L x.C x.T x.D x.H x.B x.A x.P x.nP x.rc x.nU x.cu (fun (e : Nat) => x.lenP e) (fun (e : Nat) => x.FC e) (fun (i e : Nat) => x.iO i e) (fun (i e : Nat) => x.iA i e) (fun (i e : Nat) => x.iB i e) (fun (e : Nat) => x.uP e) (fun (e : Nat) => x.uL e) fun (e : Nat) => x.uD e)) = lT (Cf.mk x.W x.L x.C x.T x.D x.H x.B x.A x.P x.nP x.rc x.nU x.cu (fun (e : Nat) => x.lenP e) (fun (e : Nat) => x.FC e) (fun (i e : Nat) => x.iO i e) (fun (i e : Nat) => x.iA i e) (fun (i e : Nat) => x.iB i e) (fun (e : Nat) => x.uP e) (fun (e : Nat) => x.uL e) fun (e : Nat) => x.uD e))
    (V.need (x_1 = x_1)
    (V.need (x_1.tmod (Int.ofNat 5) = x_1.tmod (Int.ofNat 5))
    (V.need (1 ≤ 1)
    (V.need (∀ (i : Nat), i < 1 → x.nP ≤ x.nP)
    (V.need (∀ (i e : Nat), i < 1 ∧ e < x.nP → e = e)
    (V.need (∀ (i e : Nat), i < 1 ∧ e < x.nP → x.lenP e = x.lenP e)
    (V.need (∀ (i e : Nat), i < 1 ∧ e < x.nP → x.FC e = x.FC e)
    (V.need (1 ≤ 1)
    (V.need (∀ (i : Nat), i < 1 → x.nU ≤ x.nU)
    (V.need (∀ (i e : Nat), i < 1 ∧ e < x.nU → x.uP e = x.uP e)
    (V.need (∀ (i e : Nat), i < 1 ∧ e < x.nU → x.uL e = x.uL e)
    (V.need (∀ (i e : Nat), i < 1 ∧ e < x.nU → x.uD e = x.uD e)
    (V.need (∀ (i : Nat), i < x.nP → x.lenP i ≤ gd x.nP x.lenP i ∧ x.lenP i ≤ gd x.nP x.FC i)
    (V.need (∀ (i e : Nat), i < x.nP ∧ e < x.lenP i → x.iO i e = x.iO i e)
    (V.need (∀ (i e : Nat), i < x.nP ∧ e < x.lenP i → x.iA i e = x.iA i e)
    (V.need (∀ (i e : Nat), i < x.nP ∧ e < x.lenP i → x.iB i e = x.iB i e)
    (V.need (okY (Cf.mk x.W x.L x.C x.T x.D x.H x.B x.A x.P x.nP x.rc x.nU x.cu (fun (e : Nat) => x.lenP e) (fun (e : Nat) => x.FC e) (fun (i e : Nat) => x.iO i e) (fun (i e : Nat) => x.iA i e) (fun (i e : Nat) => x.iB i e) (fun (e : Nat) => x.uP e) (fun (e : Nat) => x.uL e) fun (e : Nat) => x.uD e))
    (V.need (0 < 1 ∧ 0 < 1)
    (V.need (0 < 1 ∧ 0 < 1)
    (V.need (0 < 1 ∧ 0 < 1)
    (V.need (0 < 1 ∧ 0 < 1)
    (V.need (0 < 1 ∧ 0 < 1)
    (V.need (0 < 1 ∧ 0 < 1)
    (V.need (0 < 1 ∧ 0 < 1)
    (V.need (0 < 1 ∧ 0 < 1)
    (V.need (0 < 1 ∧ 0 < 1)
    (V.need (0 < 1 ∧ 0 < 1)
    (V.need (0 < 1 ∧ 0 < 1)
    (V.need (0 < 1 ∧ 0 < 1)
    (V.need (0 < 1 ∧ 0 < 1)
    (V.need (0 < 1 ∧ 0 < 1)
    (V.need (0 < 1 ∧ 0 < 1)
    (V.need (0 < 1 ∧ 0 < 1)
    (V.need (0 < 1 ∧ 0 < 1)
    (V.need (0 < 1 ∧ 0 < 1)
    (V.need (0 < 1 ∧ 0 < 1)
    (V.need (0 < 1 ∧ 0 < 1)
    (V.need (0 < 1 ∧ 0 < 1)
    (V.need (0 < 1 ∧ 0 < 1)
    (V.need (Int.ofNat 4 ≠ Int.ofNat 0)
    (V.need (Int.ofNat 1 ≠ Int.ofNat 0)
    (V.need (0 < 1 ∧ 0 < 1)
    (V.need (0 < 1 ∧ 0 < 1)
    (V.need (Int.ofNat 1 ≠ Int.ofNat 0)
    (V.need (Int.ofNat 7 ≠ Int.ofNat 0)
    (V.need (Int.ofNat 1 ≠ Int.ofNat 0)
    (V.need (Int.ofNat 6 ≠ Int.ofNat 0)
    (V.br (decide ((IntKind.i64.wrap (k.tdiv (Int.ofNat 1))).tmod (Int.ofNat 6) < Int.ofNat 0))
    (V.need (Int.ofNat 6 ≠ Int.ofNat 0)
    (V.need (x.W = x.W)
    (V.need (x.L = x.L)
    (V.need (x.C = x.C)
    (V.need (x.T = x.T)
    (V.need (x.D = x.D)
    (V.need (x.H = x.H)
    (V.need (x.B = x.B)
    (V.need (x.A = x.A)
    (V.need (x.P = x.P)
    (V.need (x.nP = x.nP)
    (V.need (x.rc = x.rc)
    (V.need (x.nU = x.nU)
    (V.need (x.cu = x.cu)
    (V.need (layN (Cf.mk x.W x.L x.C x.T x.D x.H x.B x.A x.P x.nP x.rc x.nU x.cu (fun (e : Nat) => x.lenP e) (fun (e : Nat) => x.FC e) (fun (i e : Nat) => x.iO i e) (fun (i e : Nat) => x.iA i e) (fun (i e : Nat) => x.iB i e) (fun (e : Nat) => x.uP e) (fun (e : Nat) => x.uL e) fun (e : Nat) => x.uD e) x.W = x.W)
    (V.need (layN (Cf.mk x.W x.L x.C x.T x.D x.H x.B x.A x.P x.nP x.rc x.nU x.cu (fun (e : Nat) => x.lenP e) (fun (e : Nat) => x.FC e) (fun (i e : Nat) => x.iO i e) (fun (i e : Nat) => x.iA i e) (fun (i e : Nat) => x.iB i e) (fun (e : Nat) => x.uP e) (fun (e : Nat) => x.uL e) fun (e : Nat) => x.uD e) x.L = x.L)
    (V.need (layN (Cf.mk x.W x.L x.C x.T x.D x.H x.B x.A x.P x.nP x.rc x.nU x.cu (fun (e : Nat) => x.lenP e) (fun (e : Nat) => x.FC e) (fun (i e : Nat) => x.iO i e) (fun (i e : Nat) => x.iA i e) (fun (i e : Nat) => x.iB i e) (fun (e : Nat) => x.uP e) (fun (e : Nat) => x.uL e) fun (e : Nat) => x.uD e) x.C = x.C)
    (V.need (layN (Cf.mk x.W x.L x.C x.T x.D x.H x.B x.A x.P x.nP x.rc x.nU x.cu (fun (e : Nat) => x.lenP e) (fun (e : Nat) => x.FC e) (fun (i e : Nat) => x.iO i e) (fun (i e : Nat) => x.iA i e) (fun (i e : Nat) => x.iB i e) (fun (e : Nat) => x.uP e) (fun (e : Nat) => x.uL e) fun (e : Nat) => x.uD e) x.T = x.T)
    (V.need (layN (Cf.mk x.W x.L x.C x.T x.D x.H x.B x.A x.P x.nP x.rc x.nU x.cu (fun (e : Nat) => x.lenP e) (fun (e : Nat) => x.FC e) (fun (i e : Nat) => x.iO i e) (fun (i e : Nat) => x.iA i e) (fun (i e : Nat) => x.iB i e) (fun (e : Nat) => x.uP e) (fun (e : Nat) => x.uL e) fun (e : Nat) => x.uD e) x.D = x.D)
    (V.need (layN (Cf.mk x.W x.L x.C x.T x.D x.H x.B x.A x.P x.nP x.rc x.nU x.cu (fun (e : Nat) => x.lenP e) (fun (e : Nat) => x.FC e) (fun (i e : Nat) => x.iO i e) (fun (i e : Nat) => x.iA i e) (fun (i e : Nat) => x.iB i e) (fun (e : Nat) => x.uP e) (fun (e : Nat) => x.uL e) fun (e : Nat) => x.uD e) x.H = x.H)
    (V.need (layN (Cf.mk x.W x.L x.C x.T x.D x.H x.B x.A x.P x.nP x.rc x.nU x.cu (fun (e : Nat) => x.lenP e) (fun (e : Nat) => x.FC e) (fun (i e : Nat) => x.iO i e) (fun (i e : Nat) => x.iA i e) (fun (i e : Nat) => x.iB i e) (fun (e : Nat) => x.uP e) (fun (e : Nat) => x.uL e) fun (e : Nat) => x.uD e) (lS (Cf.mk x.W x.L x.C x.T x.D x.H x.B x.A x.P x.nP x.rc x.nU x.cu (fun (e : Nat) => x.lenP e) (fun (e : Nat) => x.FC e) (fun (i e : Nat) => x.iO i e) (fun (i e : Nat) => x.iA i e) (fun (i e : Nat) => x.iB i e) (fun (e : Nat) => x.uP e) (fun (e : Nat) => x.uL e) fun (e : Nat) => x.uD e)) = lS (Cf.mk x.W x.L x.C x.T x.D x.H x.B x.A x.P x.nP x.rc x.nU x.cu (fun (e : Nat) => x.lenP e) (fun (e : Nat) => x.FC e) (fun (i e : Nat) => x.iO i e) (fun (i e : Nat) => x.iA i e) (fun (i e : Nat) => x.iB i e) (fun (e : Nat) => x.uP e) (fun (e : Nat) => x.uL e) fun (e : Nat) => x.uD e))
    (V.need (layN (Cf.mk x.W x.L x.C x.T x.D x.H x.B x.A x.P x.nP x.rc x.nU x.cu (fun (e : Nat) => x.lenP e) (fun (e : Nat) => x.FC e) (fun (i e : Nat) => x.iO i e) (fun (i e : Nat) => x.iA i e) (fun (i e : Nat) => x.iB i e) (fun (e : Nat) => x.uP e) (fun (e : Nat) => x.uL e) fun (e : Nat) => x.uD e) (lE (Cf.mk x.W x.L x.C x.T x.D x.H x.B x.A x.P x.nP x.rc x.nU x.cu (fun (e : Nat) => x.lenP e) (fun (e : Nat) => x.FC e) (fun (i e : Nat) => x.iO i e) (fun (i e : Nat) => x.iA i e) (fun (i e : Nat) => x.iB i e) (fun (e : Nat) => x.uP e) (fun (e : Nat) => x.uL e) fun (e : Nat) => x.uD e)) = lE (Cf.mk x.W x.L x.C x.T x.D x.H x.B x.A x.P x.nP x.rc x.nU x.cu (fun (e : Nat) => x.lenP e) (fun (e : Nat) => x.FC e) (fun (i e : Nat) => x.iO i e) (fun (i e : Nat) => x.iA i e) (fun (i e : Nat) => x.iB i e) (fun (e : Nat) => x.uP e) (fun (e : Nat) => x.uL e) fun (e : Nat) => x.uD e))
    (V.need (layN (Cf.mk x.W x.L x.C x.T x.D x.H x.B x.A x.P x.nP x.rc x.nU x.cu (fun (e : Nat) => x.lenP e) (fun (e : Nat) => x.FC e) (fun (i e : Nat) => x.iO i e) (fun (i e : Nat) => x.iA i e) (fun (i e : Nat) => x.iB i e) (fun (e : Nat) => x.uP e) (fun (e : Nat) => x.uL e) fun (e : Nat) => x.uD e) (lB (Cf.mk x.W x.L x.C x.T x.D x.H x.B x.A x.P x.nP x.rc x.nU x.cu (fun (e : Nat) => x.lenP e) (fun (e : Nat) => x.FC e) (fun (i e : Nat) => x.iO i e) (fun (i e : Nat) => x.iA i e) (fun (i e : Nat) => x.iB i e) (fun (e : Nat) => x.uP e) (fun (e : Nat) => x.uL e) fun (e : Nat) => x.uD e)) = lB (Cf.mk x.W x.L x.C x.T x.D x.H x.B x.A x.P x.nP x.rc x.nU x.cu (fun (e : Nat) => x.lenP e) (fun (e : Nat) => x.FC e) (fun (i e : Nat) => x.iO i e) (fun (i e : Nat) => x.iA i e) (fun (i e : Nat) => x.iB i e) (fun (e : Nat) => x.uP e) (fun (e : Nat) => x.uL e) fun (e : Nat) => x.uD e))
    (V.need (layN (Cf.mk x.W x.L x.C x.T x.D x.H x.B x.A x.P x.nP x.rc x.nU x.cu (fun (e : Nat) => x.lenP e) (fun (e : Nat) => x.FC e) (fun (i e : Nat) => x.iO i e) (fun (i e : Nat) => x.iA i e) (fun (i e : Nat) => x.iB i e) (fun (e : Nat) => x.uP e) (fun (e : Nat) => x.uL e) fun (e : Nat) => x.uD e) (lQ (Cf.mk x.W x.L x.C x.T x.D x.H x.B x.A x.P x.nP x.rc x.nU x.cu (fun (e : Nat) => x.lenP e) (fun (e : Nat) => x.FC e) (fun (i e : Nat) => x.iO i e) (fun (i e : Nat) => x.iA i e) (fun (i e : Nat) => x.iB i e) (fun (e : Nat) => x.uP e) (fun (e : Nat) => x.uL e) fun (e : Nat) => x.uD e)) = lQ (Cf.mk x.W x.L x.C x.T x.D x.H x.B x.A x.P x.nP x.rc x.nU x.cu (fun (e : Nat) => x.lenP e) (fun (e : Nat) => x.FC e) (fun (i e : Nat) => x.iO i e) (fun (i e : Nat) => x.iA i e) (fun (i e : Nat) => x.iB i e) (fun (e : Nat) => x.uP e) (fun (e : Nat) => x.uL e) fun (e : Nat) => x.uD e))
    (V.need (layN (Cf.mk x.W x.L x.C x.T x.D x.H x.B x.A x.P x.nP x.rc x.nU x.cu (fun (e : Nat) => x.lenP e) (fun (e : Nat) => x.FC e) (fun (i e : Nat) => x.iO i e) (fun (i e : Nat) => x.iA i e) (fun (i e : Nat) => x.iB i e) (fun (e : Nat) => x.uP e) (fun (e : Nat) => x.uL e) fun (e : Nat) => x.uD e) (lT (Cf.mk x.W x.L x.C x.T x.D x.H x.B x.A x.P x.nP x.rc x.nU x.cu (fun (e : Nat) => x.lenP e) (fun (e : Nat) => x.FC e) (fun (i e : Nat) => x.iO i e) (fun (i e : Nat) => x.iA i e) (fun (i e : Nat) => x.iB i e) (fun (e : Nat) => x.uP e) (fun (e : Nat) => x.uL e) fun (e : Nat) => x.uD e)) = lT (Cf.mk x.W x.L x.C x.T x.D x.H x.B x.A x.P x.nP x.rc x.nU x.cu (fun (e : Nat) => x.lenP e) (fun (e : Nat) => x.FC e) (fun (i e : Nat) => x.iO i e) (fun (i e : Nat) => x.iA i e) (fun (i e : Nat) => x.iB i e) (fun (e : Nat) => x.uP e) (fun (e : Nat) => x.uL e) fun (e : Nat) => x.uD e))
    (V.need (x_1.tmod (Int.ofNat 4) = x_1.tmod (Int.ofNat 4))
    (V.need (IntKind.i64.wrap (IntKind.i64.wrap ((IntKind.i64.wrap (k.tdiv (Int.ofNat 1))).tmod (Int.ofNat 6) + Int.ofNat 6) - Int.ofNat 1) = IntKind.i64.wrap (IntKind.i64.wrap ((IntKind.i64.wrap (k.tdiv (Int.ofNat 1))).tmod (Int.ofNat 6) + Int.ofNat 6) - Int.ofNat 1))
    (V.need (1 ≤ 1)
    (V.need (∀ (i : Nat), i < 1 → x.nP ≤ x.nP)
    (V.need (∀ (i e : Nat), i < 1 ∧ e < x.nP → e = e)
    (V.need (∀ (i e : Nat), i < 1 ∧ e < x.nP → x.lenP e = x.lenP e)
    (V.need (∀ (i e : Nat), i < 1 ∧ e < x.nP → x.FC e = x.FC e)
    (V.need (1 ≤ 1)
    (V.need (∀ (i : Nat), i < 1 → x.nU ≤ x.nU)
    (V.need (∀ (i e : Nat), i < 1 ∧ e < x.nU → x.uP e = x.uP e)
    (V.need (∀ (i e : Nat), i < 1 ∧ e < x.nU → x.uL e = x.uL e)
    (V.need (∀ (i e : Nat), i < 1 ∧ e < x.nU → x.uD e = x.uD e)
    (V.need (∀ (i : Nat), i < x.nP → x.lenP i ≤ gd x.nP x.lenP i ∧ x.lenP i ≤ gd x.nP x.FC i)
    (V.need (∀ (i e : Nat), i < x.nP ∧ e < x.lenP i → x.iO i e = x.iO i e)
    (V.need (∀ (i e : Nat), i < x.nP ∧ e < x.lenP i → x.iA i e = x.iA i e)
    (V.need (∀ (i e : Nat), i < x.nP ∧ e < x.lenP i → x.iB i e = x.iB i e)
    (V.need (okY (Cf.mk x.W x.L x.C x.T x.D x.H x.B x.A x.P x.nP x.rc x.nU x.cu (fun (e : Nat) => x.lenP e) (fun (e : Nat) => x.FC e) (fun (i e : Nat) => x.iO i e) (fun (i e : Nat) => x.iA i e) (fun (i e : Nat) => x.iB i e) (fun (e : Nat) => x.uP e) (fun (e : Nat) => x.uL e) fun (e : Nat) => x.uD e))
    (V.need (-Int.ofNat 1 ≤ IntKind.i64.wrap (x_1 + Int.ofNat 1) ∧ IntKind.i64.wrap (x_1 + Int.ofNat 1) ≤ Int.ofNat 14)
    (V.need ((Int.ofNat 14 - IntKind.i64.wrap (x_1 + Int.ofNat 1)).toNat < (Int.ofNat 14 - x_1).toNat)
    (V.need (IntKind.i64.wrap (x_1 + Int.ofNat 1) = IntKind.i64.wrap (x_1 + Int.ofNat 1)) V.ok)))))))))))))))))))))))))))))))))))))))))))))
    (V.need (Int.ofNat 6 ≠ Int.ofNat 0)
    (V.need (x.W = x.W)
    (V.need (x.L = x.L)
    (V.need (x.C = x.C)
    (V.need (x.T = x.T)
    (V.need (x.D = x.D)
    (V.need (x.H = x.H)
    (V.need (x.B = x.B)
    (V.need (x.A = x.A)
    (V.need (x.P = x.P)
    (V.need (x.nP = x.nP)
    (V.need (x.rc = x.rc)
    (V.need (x.nU = x.nU)
    (V.need (x.cu = x.cu)
    (V.need (layN (Cf.mk x.W x.L x.C x.T x.D x.H x.B x.A x.P x.nP x.rc x.nU x.cu (fun (e : Nat) => x.lenP e) (fun (e : Nat) => x.FC e) (fun (i e : Nat) => x.iO i e) (fun (i e : Nat) => x.iA i e) (fun (i e : Nat) => x.iB i e) (fun (e : Nat) => x.uP e) (fun (e : Nat) => x.uL e) fun (e : Nat) => x.uD e) x.W = x.W)
    (V.need (layN (Cf.mk x.W x.L x.C x.T x.D x.H x.B x.A x.P x.nP x.rc x.nU x.cu (fun (e : Nat) => x.lenP e) (fun (e : Nat) => x.FC e) (fun (i e : Nat) => x.iO i e) (fun (i e : Nat) => x.iA i e) (fun (i e : Nat) => x.iB i e) (fun (e : Nat) => x.uP e) (fun (e : Nat) => x.uL e) fun (e : Nat) => x.uD e) x.L = x.L)
    (V.need (layN (Cf.mk x.W x.L x.C x.T x.D x.H x.B x.A x.P x.nP x.rc x.nU x.cu (fun (e : Nat) => x.lenP e) (fun (e : Nat) => x.FC e) (fun (i e : Nat) => x.iO i e) (fun (i e : Nat) => x.iA i e) (fun (i e : Nat) => x.iB i e) (fun (e : Nat) => x.uP e) (fun (e : Nat) => x.uL e) fun (e : Nat) => x.uD e) x.C = x.C)
    (V.need (layN (Cf.mk x.W x.L x.C x.T x.D x.H x.B x.A x.P x.nP x.rc x.nU x.cu (fun (e : Nat) => x.lenP e) (fun (e : Nat) => x.FC e) (fun (i e : Nat) => x.iO i e) (fun (i e : Nat) => x.iA i e) (fun (i e : Nat) => x.iB i e) (fun (e : Nat) => x.uP e) (fun (e : Nat) => x.uL e) fun (e : Nat) => x.uD e) x.T = x.T)
    (V.need (layN (Cf.mk x.W x.L x.C x.T x.D x.H x.B x.A x.P x.nP x.rc x.nU x.cu (fun (e : Nat) => x.lenP e) (fun (e : Nat) => x.FC e) (fun (i e : Nat) => x.iO i e) (fun (i e : Nat) => x.iA i e) (fun (i e : Nat) => x.iB i e) (fun (e : Nat) => x.uP e) (fun (e : Nat) => x.uL e) fun (e : Nat) => x.uD e) x.D = x.D)
    (V.need (layN (Cf.mk x.W x.L x.C x.T x.D x.H x.B x.A x.P x.nP x.rc x.nU x.cu (fun (e : Nat) => x.lenP e) (fun (e : Nat) => x.FC e) (fun (i e : Nat) => x.iO i e) (fun (i e : Nat) => x.iA i e) (fun (i e : Nat) => x.iB i e) (fun (e : Nat) => x.uP e) (fun (e : Nat) => x.uL e) fun (e : Nat) => x.uD e) x.H = x.H)
    (V.need (layN (Cf.mk x.W x.L x.C x.T x.D x.H x.B x.A x.P x.nP x.rc x.nU x.cu (fun (e : Nat) => x.lenP e) (fun (e : Nat) => x.FC e) (fun (i e : Nat) => x.iO i e) (fun (i e : Nat) => x.iA i e) (fun (i e : Nat) => x.iB i e) (fun (e : Nat) => x.uP e) (fun (e : Nat) => x.uL e) fun (e : Nat) => x.uD e) (lS (Cf.mk x.W x.L x.C x.T x.D x.H x.B x.A x.P x.nP x.rc x.nU x.cu (fun (e : Nat) => x.lenP e) (fun (e : Nat) => x.FC e) (fun (i e : Nat) => x.iO i e) (fun (i e : Nat) => x.iA i e) (fun (i e : Nat) => x.iB i e) (fun (e : Nat) => x.uP e) (fun (e : Nat) => x.uL e) fun (e : Nat) => x.uD e)) = lS (Cf.mk x.W x.L x.C x.T x.D x.H x.B x.A x.P x.nP x.rc x.nU x.cu (fun (e : Nat) => x.lenP e) (fun (e : Nat) => x.FC e) (fun (i e : Nat) => x.iO i e) (fun (i e : Nat) => x.iA i e) (fun (i e : Nat) => x.iB i e) (fun (e : Nat) => x.uP e) (fun (e : Nat) => x.uL e) fun (e : Nat) => x.uD e))
    (V.need (layN (Cf.mk x.W x.L x.C x.T x.D x.H x.B x.A x.P x.nP x.rc x.nU x.cu (fun (e : Nat) => x.lenP e) (fun (e : Nat) => x.FC e) (fun (i e : Nat) => x.iO i e) (fun (i e : Nat) => x.iA i e) (fun (i e : Nat) => x.iB i e) (fun (e : Nat) => x.uP e) (fun (e : Nat) => x.uL e) fun (e : Nat) => x.uD e) (lE (Cf.mk x.W x.L x.C x.T x.D x.H x.B x.A x.P x.nP x.rc x.nU x.cu (fun (e : Nat) => x.lenP e) (fun (e : Nat) => x.FC e) (fun (i e : Nat) => x.iO i e) (fun (i e : Nat) => x.iA i e) (fun (i e : Nat) => x.iB i e) (fun (e : Nat) => x.uP e) (fun (e : Nat) => x.uL e) fun (e : Nat) => x.uD e)) = lE (Cf.mk x.W x.L x.C x.T x.D x.H x.B x.A x.P x.nP x.rc x.nU x.cu (fun (e : Nat) => x.lenP e) (fun (e : Nat) => x.FC e) (fun (i e : Nat) => x.iO i e) (fun (i e : Nat) => x.iA i e) (fun (i e : Nat) => x.iB i e) (fun (e : Nat) => x.uP e) (fun (e : Nat) => x.uL e) fun (e : Nat) => x.uD e))
    (V.need (layN (Cf.mk x.W x.L x.C x.T x.D x.H x.B x.A x.P x.nP x.rc x.nU x.cu (fun (e : Nat) => x.lenP e) (fun (e : Nat) => x.FC e) (fun (i e : Nat) => x.iO i e) (fun (i e : Nat) => x.iA i e) (fun (i e : Nat) => x.iB i e) (fun (e : Nat) => x.uP e) (fun (e : Nat) => x.uL e) fun (e : Nat) => x.uD e) (lB (Cf.mk x.W x.L x.C x.T x.D x.H x.B x.A x.P x.nP x.rc x.nU x.cu (fun (e : Nat) => x.lenP e) (fun (e : Nat) => x.FC e) (fun (i e : Nat) => x.iO i e) (fun (i e : Nat) => x.iA i e) (fun (i e : Nat) => x.iB i e) (fun (e : Nat) => x.uP e) (fun (e : Nat) => x.uL e) fun (e : Nat) => x.uD e)) = lB (Cf.mk x.W x.L x.C x.T x.D x.H x.B x.A x.P x.nP x.rc x.nU x.cu (fun (e : Nat) => x.lenP e) (fun (e : Nat) => x.FC e) (fun (i e : Nat) => x.iO i e) (fun (i e : Nat) => x.iA i e) (fun (i e : Nat) => x.iB i e) (fun (e : Nat) => x.uP e) (fun (e : Nat) => x.uL e) fun (e : Nat) => x.uD e))
    (V.need (layN (Cf.mk x.W x.L x.C x.T x.D x.H x.B x.A x.P x.nP x.rc x.nU x.cu (fun (e : Nat) => x.lenP e) (fun (e : Nat) => x.FC e) (fun (i e : Nat) => x.iO i e) (fun (i e : Nat) => x.iA i e) (fun (i e : Nat) => x.iB i e) (fun (e : Nat) => x.uP e) (fun (e : Nat) => x.uL e) fun (e : Nat) => x.uD e) (lQ (Cf.mk x.W x.L x.C x.T x.D x.H x.B x.A x.P x.nP x.rc x.nU x.cu (fun (e : Nat) => x.lenP e) (fun (e : Nat) => x.FC e) (fun (i e : Nat) => x.iO i e) (fun (i e : Nat) => x.iA i e) (fun (i e : Nat) => x.iB i e) (fun (e : Nat) => x.uP e) (fun (e : Nat) => x.uL e) fun (e : Nat) => x.uD e)) = lQ (Cf.mk x.W x.L x.C x.T x.D x.H x.B x.A x.P x.nP x.rc x.nU x.cu (fun (e : Nat) => x.lenP e) (fun (e : Nat) => x.FC e) (fun (i e : Nat) => x.iO i e) (fun (i e : Nat) => x.iA i e) (fun (i e : Nat) => x.iB i e) (fun (e : Nat) => x.uP e) (fun (e : Nat) => x.uL e) fun (e : Nat) => x.uD e))
    (V.need (layN (Cf.mk x.W x.L x.C x.T x.D x.H x.B x.A x.P x.nP x.rc x.nU x.cu (fun (e : Nat) => x.lenP e) (fun (e : Nat) => x.FC e) (fun (i e : Nat) => x.iO i e) (fun (i e : Nat) => x.iA i e) (fun (i e : Nat) => x.iB i e) (fun (e : Nat) => x.uP e) (fun (e : Nat) => x.uL e) fun (e : Nat) => x.uD e) (lT (Cf.mk x.W x.L x.C x.T x.D x.H x.B x.A x.P x.nP x.rc x.nU x.cu (fun (e : Nat) => x.lenP e) (fun (e : Nat) => x.FC e) (fun (i e : Nat) => x.iO i e) (fun (i e : Nat) => x.iA i e) (fun (i e : Nat) => x.iB i e) (fun (e : Nat) => x.uP e) (fun (e : Nat) => x.uL e) fun (e : Nat) => x.uD e)) = lT (Cf.mk x.W x.L x.C x.T x.D x.H x.B x.A x.P x.nP x.rc x.nU x.cu (fun (e : Nat) => x.lenP e) (fun (e : Nat) => x.FC e) (fun (i e : Nat) => x.iO i e) (fun (i e : Nat) => x.iA i e) (fun (i e : Nat) => x.iB i e) (fun (e : Nat) => x.uP e) (fun (e : Nat) => x.uL e) fun (e : Nat) => x.uD e))
    (V.need (x_1.tmod (Int.ofNat 4) = x_1.tmod (Int.ofNat 4))
    (V.need (IntKind.i64.wrap ((IntKind.i64.wrap (k.tdiv (Int.ofNat 1))).tmod (Int.ofNat 6) - Int.ofNat 1) = IntKind.i64.wrap ((IntKind.i64.wrap (k.tdiv (Int.ofNat 1))).tmod (Int.ofNat 6) - Int.ofNat 1))
    (V.need (1 ≤ 1)
    (V.need (∀ (i : Nat), i < 1 → x.nP ≤ x.nP)
    (V.need (∀ (i e : Nat), i < 1 ∧ e < x.nP → e = e)
    (V.need (∀ (i e : Nat), i < 1 ∧ e < x.nP → x.lenP e = x.lenP e)
    (V.need (∀ (i e : Nat), i < 1 ∧ e < x.nP → x.FC e = x.FC e)
    (V.need (1 ≤ 1)
    (V.need (∀ (i : Nat), i < 1 → x.nU ≤ x.nU)
    (V.need (∀ (i e : Nat), i < 1 ∧ e < x.nU → x.uP e = x.uP e)
    (V.need (∀ (i e : Nat), i < 1 ∧ e < x.nU → x.uL e = x.uL e)
    (V.need (∀ (i e : Nat), i < 1 ∧ e < x.nU → x.uD e = x.uD e)
    (V.need (∀ (i : Nat), i < x.nP → x.lenP i ≤ gd x.nP x.lenP i ∧ x.lenP i ≤ gd x.nP x.FC i)
    (V.need (∀ (i e : Nat), i < x.nP ∧ e < x.lenP i → x.iO i e = x.iO i e)
    (V.need (∀ (i e : Nat), i < x.nP ∧ e < x.lenP i → x.iA i e = x.iA i e)
    (V.need (∀ (i e : Nat), i < x.nP ∧ e < x.lenP i → x.iB i e = x.iB i e)
    (V.need (okY (Cf.mk x.W x.L x.C x.T x.D x.H x.B x.A x.P x.nP x.rc x.nU x.cu (fun (e : Nat) => x.lenP e) (fun (e : Nat) => x.FC e) (fun (i e : Nat) => x.iO i e) (fun (i e : Nat) => x.iA i e) (fun (i e : Nat) => x.iB i e) (fun (e : Nat) => x.uP e) (fun (e : Nat) => x.uL e) fun (e : Nat) => x.uD e))
    (V.need (-Int.ofNat 1 ≤ IntKind.i64.wrap (x_1 + Int.ofNat 1) ∧ IntKind.i64.wrap (x_1 + Int.ofNat 1) ≤ Int.ofNat 14)
    (V.need ((Int.ofNat 14 - IntKind.i64.wrap (x_1 + Int.ofNat 1)).toNat < (Int.ofNat 14 - x_1).toNat)
    (V.need (IntKind.i64.wrap (x_1 + Int.ofNat 1) = IntKind.i64.wrap (x_1 + Int.ofNat 1)) V.ok))))))))))))))))))))))))))))))))))))))))))))))))))))))))))))))))))))))))))))))))))))))))))))))))))))))))))))))))))))))))))))))))))))))))))))
    (V.need (c.W = c.W)
    (V.need (c.L = c.L)
    (V.need (c.C = c.C)
    (V.need (c.T = c.T)
    (V.need (c.D = c.D)
    (V.need (c.H = c.H)
    (V.need (c.B = c.B)
    (V.need (c.A = c.A)
    (V.need (c.P = c.P)
    (V.need (c.nP = c.nP)
    (V.need (c.rc = c.rc)
    (V.need (c.nU = c.nU)
    (V.need (c.cu = c.cu)
    (V.need (1 ≤ 1)
    (V.need (∀ (i : Nat), i < 1 → c.nP ≤ c.nP)
    (V.need (∀ (i e : Nat), i < 1 ∧ e < c.nP → e = e)
    (V.need (∀ (i e : Nat), i < 1 ∧ e < c.nP → c.lenP e = c.lenP e)
    (V.need (∀ (i e : Nat), i < 1 ∧ e < c.nP → c.FC e = c.FC e)
    (V.need (1 ≤ 1)
    (V.need (∀ (i : Nat), i < 1 → c.nU ≤ c.nU)
    (V.need (∀ (i e : Nat), i < 1 ∧ e < c.nU → c.uP e = c.uP e)
    (V.need (∀ (i e : Nat), i < 1 ∧ e < c.nU → c.uL e = c.uL e)
    (V.need (∀ (i e : Nat), i < 1 ∧ e < c.nU → c.uD e = c.uD e)
    (V.need (c.nP ≤ c.nP)
    (V.need (∀ (i : Nat), i < c.nP → c.lenP i ≤ c.lenP i)
    (V.need (∀ (i e : Nat), i < c.nP ∧ e < c.lenP i → c.iO i e = c.iO i e)
    (V.need (∀ (i e : Nat), i < c.nP ∧ e < c.lenP i → c.iA i e = c.iA i e)
    (V.need (∀ (i e : Nat), i < c.nP ∧ e < c.lenP i → c.iB i e = c.iB i e)
    (V.need True
    (V.need (c.W = c.W)
    (V.need (c.L = c.L)
    (V.need (c.C = c.C)
    (V.need (c.T = c.T)
    (V.need (c.D = c.D)
    (V.need (c.H = c.H)
    (V.need (c.B = c.B)
    (V.need (c.A = c.A)
    (V.need (c.P = c.P)
    (V.need (c.nP = c.nP)
    (V.need (c.rc = c.rc)
    (V.need (c.nU = c.nU)
    (V.need (c.cu = c.cu)
    (V.need (1 ≤ 1)
    (V.need (∀ (i : Nat), i < 1 → c.nP ≤ c.nP)
    (V.need (∀ (i e : Nat), i < 1 ∧ e < c.nP → e = e)
    (V.need (∀ (i e : Nat), i < 1 ∧ e < c.nP → c.lenP e = c.lenP e)
    (V.need (∀ (i e : Nat), i < 1 ∧ e < c.nP → c.FC e = c.FC e)
    (V.need (1 ≤ 1)
    (V.need (∀ (i : Nat), i < 1 → c.nU ≤ c.nU)
    (V.need (∀ (i e : Nat), i < 1 ∧ e < c.nU → c.uP e = c.uP e)
    (V.need (∀ (i e : Nat), i < 1 ∧ e < c.nU → c.uL e = c.uL e)
    (V.need (∀ (i e : Nat), i < 1 ∧ e < c.nU → c.uD e = c.uD e)
    (V.need (c.nP ≤ c.nP)
    (V.need (∀ (i : Nat), i < c.nP → c.lenP i ≤ c.lenP i)
    (V.need (∀ (i e : Nat), i < c.nP ∧ e < c.lenP i → c.iO i e = c.iO i e)
    (V.need (∀ (i e : Nat), i < c.nP ∧ e < c.lenP i → c.iA i e = c.iA i e)
    (V.need (∀ (i e : Nat), i < c.nP ∧ e < c.lenP i → c.iB i e = c.iB i e)
    (V.need True
    (V.br (errE (Cf.mk c.W c.L c.C c.T c.D c.H c.B c.A c.P c.nP c.rc c.nU c.cu (fun (e : Nat) => c.lenP e) (fun (e : Nat) => c.FC e) (fun (i e : Nat) => c.iO i e) (fun (i e : Nat) => c.iA i e) (fun (i e : Nat) => c.iB i e) (fun (e : Nat) => c.uP e) (fun (e : Nat) => c.uL e) fun (e : Nat) => c.uD e) == errE (Cf.mk c.W c.L c.C c.T c.D c.H c.B c.A c.P c.nP c.rc c.nU c.cu (fun (e : Nat) => c.lenP e) (fun (e : Nat) => c.FC e) (fun (i e : Nat) => c.iO i e) (fun (i e : Nat) => c.iA i e) (fun (i e : Nat) => c.iB i e) (fun (e : Nat) => c.uP e) (fun (e : Nat) => c.uL e) fun (e : Nat) => c.uD e))
    (V.br (errE (Cf.mk c.W c.L c.C c.T c.D c.H c.B c.A c.P c.nP c.rc c.nU c.cu (fun (e : Nat) => c.lenP e) (fun (e : Nat) => c.FC e) (fun (i e : Nat) => c.iO i e) (fun (i e : Nat) => c.iA i e) (fun (i e : Nat) => c.iB i e) (fun (e : Nat) => c.uP e) (fun (e : Nat) => c.uL e) fun (e : Nat) => c.uD e) != Int.ofNat 0) V.ok
    (V.need (c.W = c.W)
    (V.need (c.L = c.L)
    (V.need (c.C = c.C)
    (V.need (c.T = c.T)
    (V.need (c.D = c.D)
    (V.need (c.H = c.H)
    (V.need (c.B = c.B)
    (V.need (c.A = c.A)
    (V.need (c.P = c.P)
    (V.need (c.nP = c.nP)
    (V.need (c.rc = c.rc)
    (V.need (c.nU = c.nU)
    (V.need (c.cu = c.cu)
    (V.need (layN (Cf.mk c.W c.L c.C c.T c.D c.H c.B c.A c.P c.nP c.rc c.nU c.cu (fun (e : Nat) => c.lenP e) (fun (e : Nat) => c.FC e) (fun (i e : Nat) => c.iO i e) (fun (i e : Nat) => c.iA i e) (fun (i e : Nat) => c.iB i e) (fun (e : Nat) => c.uP e) (fun (e : Nat) => c.uL e) fun (e : Nat) => c.uD e) c.W = c.W)
    (V.need (layN (Cf.mk c.W c.L c.C c.T c.D c.H c.B c.A c.P c.nP c.rc c.nU c.cu (fun (e : Nat) => c.lenP e) (fun (e : Nat) => c.FC e) (fun (i e : Nat) => c.iO i e) (fun (i e : Nat) => c.iA i e) (fun (i e : Nat) => c.iB i e) (fun (e : Nat) => c.uP e) (fun (e : Nat) => c.uL e) fun (e : Nat) => c.uD e) c.L = c.L)
    (V.need (layN (Cf.mk c.W c.L c.C c.T c.D c.H c.B c.A c.P c.nP c.rc c.nU c.cu (fun (e : Nat) => c.lenP e) (fun (e : Nat) => c.FC e) (fun (i e : Nat) => c.iO i e) (fun (i e : Nat) => c.iA i e) (fun (i e : Nat) => c.iB i e) (fun (e : Nat) => c.uP e) (fun (e : Nat) => c.uL e) fun (e : Nat) => c.uD e) c.C = c.C)
    (V.need (layN (Cf.mk c.W c.L c.C c.T c.D c.H c.B c.A c.P c.nP c.rc c.nU c.cu (fun (e : Nat) => c.lenP e) (fun (e : Nat) => c.FC e) (fun (i e : Nat) => c.iO i e) (fun (i e : Nat) => c.iA i e) (fun (i e : Nat) => c.iB i e) (fun (e : Nat) => c.uP e) (fun (e : Nat) => c.uL e) fun (e : Nat) => c.uD e) c.T = c.T)
    (V.need (layN (Cf.mk c.W c.L c.C c.T c.D c.H c.B c.A c.P c.nP c.rc c.nU c.cu (fun (e : Nat) => c.lenP e) (fun (e : Nat) => c.FC e) (fun (i e : Nat) => c.iO i e) (fun (i e : Nat) => c.iA i e) (fun (i e : Nat) => c.iB i e) (fun (e : Nat) => c.uP e) (fun (e : Nat) => c.uL e) fun (e : Nat) => c.uD e) c.D = c.D)
    (V.need (layN (Cf.mk c.W c.L c.C c.T c.D c.H c.B c.A c.P c.nP c.rc c.nU c.cu (fun (e : Nat) => c.lenP e) (fun (e : Nat) => c.FC e) (fun (i e : Nat) => c.iO i e) (fun (i e : Nat) => c.iA i e) (fun (i e : Nat) => c.iB i e) (fun (e : Nat) => c.uP e) (fun (e : Nat) => c.uL e) fun (e : Nat) => c.uD e) c.H = c.H)
    (V.need (layN (Cf.mk c.W c.L c.C c.T c.D c.H c.B c.A c.P c.nP c.rc c.nU c.cu (fun (e : Nat) => c.lenP e) (fun (e : Nat) => c.FC e) (fun (i e : Nat) => c.iO i e) (fun (i e : Nat) => c.iA i e) (fun (i e : Nat) => c.iB i e) (fun (e : Nat) => c.uP e) (fun (e : Nat) => c.uL e) fun (e : Nat) => c.uD e) (lS (Cf.mk c.W c.L c.C c.T c.D c.H c.B c.A c.P c.nP c.rc c.nU c.cu (fun (e : Nat) => c.lenP e) (fun (e : Nat) => c.FC e) (fun (i e : Nat) => c.iO i e) (fun (i e : Nat) => c.iA i e) (fun (i e : Nat) => c.iB i e) (fun (e : Nat) => c.uP e) (fun (e : Nat) => c.uL e) fun (e : Nat) => c.uD e)) = lS (Cf.mk c.W c.L c.C c.T c.D c.H c.B c.A c.P c.nP c.rc c.nU c.cu (fun (e : Nat) => c.lenP e) (fun (e : Nat) => c.FC e) (fun (i e : Nat) => c.iO i e) (fun (i e : Nat) => c.iA i e) (fun (i e : Nat) => c.iB i e) (fun (e : Nat) => c.uP e) (fun (e : Nat) => c.uL e) fun (e : Nat) => c.uD e))
    (V.need (layN (Cf.mk c.W c.L c.C c.T c.D c.H c.B c.A c.P c.nP c.rc c.nU c.cu (fun (e : Nat) => c.lenP e) (fun (e : Nat) => c.FC e) (fun (i e : Nat) => c.iO i e) (fun (i e : Nat) => c.iA i e) (fun (i e : Nat) => c.iB i e) (fun (e : Nat) => c.uP e) (fun (e : Nat) => c.uL e) fun (e : Nat) => c.uD e) (lE (Cf.mk c.W c.L c.C c.T c.D c.H c.B c.A c.P c.nP c.rc c.nU c.cu (fun (e : Nat) => c.lenP e) (fun (e : Nat) => c.FC e) (fun (i e : Nat) => c.iO i e) (fun (i e : Nat) => c.iA i e) (fun (i e : Nat) => c.iB i e) (fun (e : Nat) => c.uP e) (fun (e : Nat) => c.uL e) fun (e : Nat) => c.uD e)) = lE (Cf.mk c.W c.L c.C c.T c.D c.H c.B c.A c.P c.nP c.rc c.nU c.cu (fun (e : Nat) => c.lenP e) (fun (e : Nat) => c.FC e) (fun (i e : Nat) => c.iO i e) (fun (i e : Nat) => c.iA i e) (fun (i e : Nat) => c.iB i e) (fun (e : Nat) => c.uP e) (fun (e : Nat) => c.uL e) fun (e : Nat) => c.uD e))
    (V.need (layN (Cf.mk c.W c.L c.C c.T c.D c.H c.B c.A c.P c.nP c.rc c.nU c.cu (fun (e : Nat) => c.lenP e) (fun (e : Nat) => c.FC e) (fun (i e : Nat) => c.iO i e) (fun (i e : Nat) => c.iA i e) (fun (i e : Nat) => c.iB i e) (fun (e : Nat) => c.uP e) (fun (e : Nat) => c.uL e) fun (e : Nat) => c.uD e) (lB (Cf.mk c.W c.L c.C c.T c.D c.H c.B c.A c.P c.nP c.rc c.nU c.cu (fun (e : Nat) => c.lenP e) (fun (e : Nat) => c.FC e) (fun (i e : Nat) => c.iO i e) (fun (i e : Nat) => c.iA i e) (fun (i e : Nat) => c.iB i e) (fun (e : Nat) => c.uP e) (fun (e : Nat) => c.uL e) fun (e : Nat) => c.uD e)) = lB (Cf.mk c.W c.L c.C c.T c.D c.H c.B c.A c.P c.nP c.rc c.nU c.cu (fun (e : Nat) => c.lenP e) (fun (e : Nat) => c.FC e) (fun (i e : Nat) => c.iO i e) (fun (i e : Nat) => c.iA i e) (fun (i e : Nat) => c.iB i e) (fun (e : Nat) => c.uP e) (fun (e : Nat) => c.uL e) fun (e : Nat) => c.uD e))
    (V.need (layN (Cf.mk c.W c.L c.C c.T c.D c.H c.B c.A c.P c.nP c.rc c.nU c.cu (fun (e : Nat) => c.lenP e) (fun (e : Nat) => c.FC e) (fun (i e : Nat) => c.iO i e) (fun (i e : Nat) => c.iA i e) (fun (i e : Nat) => c.iB i e) (fun (e : Nat) => c.uP e) (fun (e : Nat) => c.uL e) fun (e : Nat) => c.uD e) (lQ (Cf.mk c.W c.L c.C c.T c.D c.H c.B c.A c.P c.nP c.rc c.nU c.cu (fun (e : Nat) => c.lenP e) (fun (e : Nat) => c.FC e) (fun (i e : Nat) => c.iO i e) (fun (i e : Nat) => c.iA i e) (fun (i e : Nat) => c.iB i e) (fun (e : Nat) => c.uP e) (fun (e : Nat) => c.uL e) fun (e : Nat) => c.uD e)) = lQ (Cf.mk c.W c.L c.C c.T c.D c.H c.B c.A c.P c.nP c.rc c.nU c.cu (fun (e : Nat) => c.lenP e) (fun (e : Nat) => c.FC e) (fun (i e : Nat) => c.iO i e) (fun (i e : Nat) => c.iA i e) (fun (i e : Nat) => c.iB i e) (fun (e : Nat) => c.uP e) (fun (e : Nat) => c.uL e) fun (e : Nat) => c.uD e))
    (V.need (layN (Cf.mk c.W c.L c.C c.T c.D c.H c.B c.A c.P c.nP c.rc c.nU c.cu (fun (e : Nat) => c.lenP e) (fun (e : Nat) => c.FC e) (fun (i e : Nat) => c.iO i e) (fun (i e : Nat) => c.iA i e) (fun (i e : Nat) => c.iB i e) (fun (e : Nat) => c.uP e) (fun (e : Nat) => c.uL e) fun (e : Nat) => c.uD e) (lT (Cf.mk c.W c.L c.C c.T c.D c.H c.B c.A c.P c.nP c.rc c.nU c.cu (fun (e : Nat) => c.lenP e) (fun (e : Nat) => c.FC e) (fun (i e : Nat) => c.iO i e) (fun (i e : Nat) => c.iA i e) (fun (i e : Nat) => c.iB i e) (fun (e : Nat) => c.uP e) (fun (e : Nat) => c.uL e) fun (e : Nat) => c.uD e)) = lT (Cf.mk c.W c.L c.C c.T c.D c.H c.B c.A c.P c.nP c.rc c.nU c.cu (fun (e : Nat) => c.lenP e) (fun (e : Nat) => c.FC e) (fun (i e : Nat) => c.iO i e) (fun (i e : Nat) => c.iA i e) (fun (i e : Nat) => c.iB i e) (fun (e : Nat) => c.uP e) (fun (e : Nat) => c.uL e) fun (e : Nat) => c.uD e))
    (V.need (i = i)
    (V.need (k = k)
    (V.need (1 ≤ 1)
    (V.need (∀ (i : Nat), i < 1 → c.nP ≤ c.nP)
    (V.need (∀ (i e : Nat), i < 1 ∧ e < c.nP → e = e)
    (V.need (∀ (i e : Nat), i < 1 ∧ e < c.nP → c.lenP e = c.lenP e)
    (V.need (∀ (i e : Nat), i < 1 ∧ e < c.nP → c.FC e = c.FC e)
    (V.need (1 ≤ 1)
    (V.need (∀ (i : Nat), i < 1 → c.nU ≤ c.nU)
    (V.need (∀ (i e : Nat), i < 1 ∧ e < c.nU → c.uP e = c.uP e)
    (V.need (∀ (i e : Nat), i < 1 ∧ e < c.nU → c.uL e = c.uL e)
    (V.need (∀ (i e : Nat), i < 1 ∧ e < c.nU → c.uD e = c.uD e)
    (V.need (c.nP ≤ c.nP)
    (V.need (∀ (i : Nat), i < c.nP → c.lenP i ≤ c.lenP i)
    (V.need (∀ (i e : Nat), i < c.nP ∧ e < c.lenP i → c.iO i e = c.iO i e)
    (V.need (∀ (i e : Nat), i < c.nP ∧ e < c.lenP i → c.iA i e = c.iA i e)
    (V.need (∀ (i e : Nat), i < c.nP ∧ e < c.lenP i → c.iB i e = c.iB i e)
    (V.need (okY (Cf.mk c.W c.L c.C c.T c.D c.H c.B c.A c.P c.nP c.rc c.nU c.cu (fun (e : Nat) => c.lenP e) (fun (e : Nat) => c.FC e) (fun (i e : Nat) => c.iO i e) (fun (i e : Nat) => c.iA i e) (fun (i e : Nat) => c.iB i e) (fun (e : Nat) => c.uP e) (fun (e : Nat) => c.uL e) fun (e : Nat) => c.uD e)) V.ok)))))))))))))))))))))))))))))))))))))))))))
    (V.bad 420))))))))))))))))))))))))))))))))))))))))))))))))))))))))))))))))))))))))))))))))))))))))))))))))))))))))))))))))))))))))))))))))))))))))))))))) := by kernel_rfl


end Go.Proofs.Ytjpnpaboahbncaa.Vc

/- LayoutCells: the law's conditions hold; the walk. -/
set_option linter.unusedVariables false
set_option linter.unusedSimpArgs false
set_option maxRecDepth 100000
namespace Go.Proofs.Ytjpnpaboahbncaa.Vc
open Go Go.RowKit Sx Cn Dc Ck
theorem layN_d {g : Nat → Int} {len : Nat} {d : Cf} {x : Int} (hu : U8 len g) (h : IsDec g len d) : layN d x = x := (layN_1 (dec_err hu h)).symm
theorem layN_e {c : Cf} {x : Int} (h : errE c = 0) : layN c x = x := (layN_1 h).symm
set_option maxHeartbeats 8000000 in
theorem vhLayC (c : Cf) (g : Nat → Int) (len cap : Nat) (i k : Int) (hw : -9223372036854775808 ≤ k ∧ k ≤ 9223372036854775807) (hu : U8 len g) : VHolds (verLayC c g len cap i k) := by
  constructor
  rw [verLayC_eq]
  simp only [V.holds, Int.ofNat_eq_natCast, decide_eq_true_eq, decide_eq_false_iff_not, Bool.not_eq_true', Bool.not_eq_false', bne_iff_ne, bne_eq_false_iff_eq, beq_iff_eq, beq_eq_false_iff_ne, ne_eq, true_and, and_true, forall_const, true_implies, implies_true, Nat.zero_add, Nat.sub_zero, Nat.lt_add_one, Nat.zero_lt_one, Int.natCast_zero, Int.natCast_one, Int.cast_ofNat_Int, gt_iff_lt, and_self, eq_self, Nat.le_refl, cf_eta, not_true_eq_false, false_implies]
  repeat' first | exact True.intro | with_reducible apply And.intro | intro _
  all_goals try (have hs := dec_small' hu (by assumption))
  all_goals try (have hs1 := hs.1)
  all_goals try (first
    | contradiction
    | omega
    | exact (hu _ (by assumption)).1
    | exact (hu _ (by assumption)).2
    | exact dec_some _ _
    | exact gd_at (by assumption) (Nat.le_refl _)
    | exact sm_f (by assumption) hs
    | exact sm_r hs
    | exact sm_u hs
    | exact layN_d hu (by assumption)
    | exact layN_e (by assumption)
    | exact okY_of (dec_err hu (by assumption))
    | exact okY_of (by assumption)
    | (exfalso; exact (by assumption : ¬ errE _ = 0) (dec_err hu (by assumption)))
    | (rw [w64 (by omega)]; omega)
    | rfl)
theorem walkLayC (a : Option Addr) (len cap : Nat) (g : Nat → Int) (c : Cf) (a9 a10 : Option Addr) (aI : Nat → Option Addr) (i k : Int) (w : World) (h : IsInts .u8 w a len cap g) (hc : IsCfg w c a9 a10 aI) (h1 : (Lit.int .i64 i).wf = true) (h2 : (Lit.int .i64 k).wf = true) :
    Calls P 9 #[.slice a len cap, cfgVal c a9 a10, .int .i64 i, .int .i64 k] w fun e w' => e = .returned (.bool true) ∧ Below w.heap.size w w' := by
  have ht := tabC_h 1 a9 a10 aI (fun k i => if k = 0 ∧ i = 0 then addr0 a else none)
  have h3 : tabC 1 a9 a10 aI (fun k i => if k = 0 ∧ i = 0 then addr0 a else none) 0 0 = addr0 a := by simp [tabC]
  refine calls_yesV (vs := [.slice a len cap, cfgVal c a9 a10, .int .i64 i, .int .i64 k]) conLL_ok (ρ := tabC 1 a9 a10 aI (fun k i => if k = 0 ∧ i = 0 then addr0 a else none))
    (vhLayC c g len cap i k (wfi h2) fun e he => u8i (h.fits e he))
    (views_inv fun q b hk => ?_) ⟨h.val h3 ⟨Nat.le_of_ble_eq_true rfl, trivial⟩, IsCfg.val ht.1 ht.2.1 ⟨Nat.le_of_ble_eq_true rfl, trivial⟩ ⟨Nat.le_of_ble_eq_true rfl, trivial⟩, fun _ _ => rfl, fun _ _ => rfl, trivial⟩
  have key : (q = 0 ∧ b = ints .u8 len g) ∨ find q (hCm 1 c) = some b := by
    simp only [List.cons_append, List.nil_append, find_cons] at hk
    split at hk
    · cases hk; exact .inl ⟨by assumption, rfl⟩
    · exact .inr hk
  rcases key with ⟨rfl, rfl⟩ | hk
  · exact ⟨rfl, by decide, h.sat h3⟩
  · obtain ⟨g1, g2, _, g3, g4⟩ := hc.sat ht.1 ht.2.1 ht.2.2.1 (n := Hp.sc ⟨[(0, ints .u8 len g)] ++ hCm 1 c, 4, fun _ => True⟩) ⟨Nat.le_of_ble_eq_true rfl, trivial⟩ q b hk
    exact ⟨g1, by omega, g3, g4⟩
end Go.Proofs.Ytjpnpaboahbncaa.Vc
