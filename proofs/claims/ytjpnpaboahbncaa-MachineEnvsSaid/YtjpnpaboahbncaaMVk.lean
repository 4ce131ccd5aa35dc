/- layout: places of cells, of the program and of the reference: what is asked, what is answered. -/
import Derived.Test.YtjpnpaboahbncaaMVh
set_option linter.unusedVariables false
set_option linter.unusedSimpArgs false
set_option linter.unusedVariables false
set_option maxRecDepth 100000
namespace Go.Proofs.Ytjpnpaboahbncaa.Vc
open Go Go.RowKit Sx Cn Dc Ck
/-- The configurations whose layout is asked for: small numbers. -/
def okY (c : Cf) : Prop := (1 ≤ c.W ∧ c.W ≤ 16) ∧ (1 ≤ c.L ∧ c.L ≤ 64) ∧ (1 ≤ c.C ∧ c.C ≤ 8) ∧ (1 ≤ c.T ∧ c.T ≤ 256) ∧ (1 ≤ c.D ∧ c.D ≤ 64) ∧ (1 ≤ c.H ∧ c.H ≤ 64)
theorem okN_Y {c : Cf} (h : okN c) : okY c := by unfold okN at h; unfold okY; omega
def lS (c : Cf) : Int := 4 + c.H
def lE (c : Cf) : Int := 4 + c.H + c.C
def lB (c : Cf) : Int := 4 + c.H + c.C + c.W
def lQ (c : Cf) : Int := 4 + c.H + c.C + c.W + c.W
def lT (c : Cf) : Int := lQ c + c.W * c.L * (2 + c.D)
noncomputable section
end
end Go.Proofs.Ytjpnpaboahbncaa.Vc


/- layout: a task's cell, a deque: the contracts; all cells: what is asked. -/
set_option linter.unusedVariables false
set_option linter.unusedSimpArgs false
set_option maxRecDepth 100000
namespace Go.Proofs.Ytjpnpaboahbncaa.Vc
open Go Go.RowKit Sx Cn Dc Ck
theorem mulB {a b A B : Int} (h0 : 0 ≤ a) (h1 : a ≤ A) (h2 : 0 ≤ b) (h3 : b ≤ B) : 0 ≤ a * b ∧ a * b ≤ A * B :=
  ⟨Int.mul_nonneg h0 h2, Int.mul_le_mul h1 h3 h2 (by omega)⟩
section
variable {c : Cf} {w v : Int}
structure WY (c : Cf) : Prop where
  w1 : IntKind.i64.wrap (4 + c.H) = 4 + c.H
  w2 : IntKind.i64.wrap (4 + c.H + c.C) = 4 + c.H + c.C
  w3 : IntKind.i64.wrap (2 * c.W) = 2 * c.W
  w4 : IntKind.i64.wrap (4 + c.H + c.C + 2 * c.W) = lQ c
  w5 : IntKind.i64.wrap (c.W * c.L) = c.W * c.L
  w6 : IntKind.i64.wrap (2 + c.D) = 2 + c.D
  w7 : IntKind.i64.wrap (c.W * c.L * (2 + c.D)) = c.W * c.L * (2 + c.D)
  w8 : IntKind.i64.wrap (lQ c + c.W * c.L * (2 + c.D)) = lT c
  w9 : IntKind.i64.wrap (c.L * (2 + c.D)) = c.L * (2 + c.D)
  w10 : IntKind.i64.wrap (4 + c.H + c.C + c.W) = 4 + c.H + c.C + c.W
  w11 : IntKind.i64.wrap (4 + c.H + c.C + c.W + c.W) = lQ c
  q : 0 ≤ lQ c ∧ lQ c ≤ 200
  t : 0 ≤ lT c ∧ lT c ≤ 70000
  y : 0 ≤ c.L * (2 + c.D) ∧ c.L * (2 + c.D) ≤ 4224
theorem wy (h : okY c) : WY c := by
  obtain ⟨h1, h2, h3, h4, h5, h6⟩ := h
  have hX := mulB (a := c.W) (b := c.L) (A := 16) (B := 64) (by omega) h1.2 (by omega) h2.2
  have hY := mulB (a := c.W * c.L) (b := 2 + c.D) (A := 1024) (B := 66) hX.1 (by omega) (by omega) (by omega)
  have hZ := mulB (a := c.L) (b := 2 + c.D) (A := 64) (B := 66) (by omega) (by omega) (by omega) (by omega)
  have q : 0 ≤ lQ c ∧ lQ c ≤ 200 := by unfold lQ; omega
  have e : lQ c = 4 + c.H + c.C + 2 * c.W := by unfold lQ; omega
  refine ⟨w64 (by omega), w64 (by omega), w64 (by omega), ?_, w64 (by omega), w64 (by omega), w64 (by omega), ?_, w64 (by omega), w64 (by omega), w64 (by omega), q, ?_, hZ⟩
  · rw [e]; exact w64 (by omega)
  · unfold lT; exact w64 (by omega)
  · unfold lT; omega
end
noncomputable section
end
end Go.Proofs.Ytjpnpaboahbncaa.Vc


/- layout: all cells of a configuration are the reference's: the contract; New: what is asked. -/
set_option linter.unusedVariables false
set_option linter.unusedSimpArgs false
set_option maxRecDepth 100000
namespace Go.Proofs.Ytjpnpaboahbncaa.Vc
open Go Go.RowKit Sx Cn Dc Ck
noncomputable section
/-- The layout that New answers. -/
def layN (c : Cf) (x : Int) : Int := if errE c = 0 then x else 0
def layV (c : Cf) : SV := .t [.a [.iv .i64 (layN c c.W), .iv .i64 (layN c c.L), .iv .i64 (layN c c.C), .iv .i64 (layN c c.T), .iv .i64 (layN c c.D), .iv .i64 (layN c c.H), .iv .i64 (layN c (lS c)), .iv .i64 (layN c (lE c)), .iv .i64 (layN c (lB c)), .iv .i64 (layN c (lQ c)), .iv .i64 (layN c (lT c))], .c (.iv .i64 (errE c))]
def conNw : Con := Con.add 58 conErr con3
theorem conNw_ok : ConOK P conNw := .add conErr58 con3_ok
def verNew (c : Cf) : V := verF P conNw 3 3 34 [] .nil [argC c] ⟨hC c, 3, fun _ => True⟩ (finV (X := Unit) 3 3 (fun _ _ => some ()) (fun _ _ => []) (fun _ => True) (fun _ => layV c) (fun _ => []))
end
end Go.Proofs.Ytjpnpaboahbncaa.Vc


/- layout: the conditions, printed by program. -/
set_option linter.unusedVariables false
set_option maxRecDepth 100000
namespace Go.Proofs.Ytjpnpaboahbncaa.Vc
open Go Go.RowKit Sx Cn Dc Ck

theorem verNew_eq (c : Cf) : verNew c =
  V.need (c.W = c.W)
    (V.need (c.L = c.L)
    (V.need (c.C = c.C)
    (V.need (c.T = c.T)
    (V.need (c.D = c.D)
    (V.need (c.H = c.H)
    (V.need (c.B = c.B)
    (V.need (c.A = c.A)
    (V.need (c.P = c.P)
    (V.need (c.nP = c.nP)
    (V.need (c.rc = c.rc)
    (V.need (c.nU = c.nU)
    (V.need (c.cu = c.cu)
    (V.need (1 ≤ 1)
    (V.need (∀ (i : Nat), i < 1 → c.nP ≤ c.nP)
    (V.need (∀ (i e : Nat), i < 1 ∧ e < c.nP → e = e)
    (V.need (∀ (i e : Nat), i < 1 ∧ e < c.nP → c.lenP e = c.lenP e)
    (V.need (∀ (i e : Nat), i < 1 ∧ e < c.nP → c.FC e = c.FC e)
    (V.need (1 ≤ 1)
    (V.need (∀ (i : Nat), i < 1 → c.nU ≤ c.nU)
    (V.need (∀ (i e : Nat), i < 1 ∧ e < c.nU → c.uP e = c.uP e)
    (V.need (∀ (i e : Nat), i < 1 ∧ e < c.nU → c.uL e = c.uL e)
    (V.need (∀ (i e : Nat), i < 1 ∧ e < c.nU → c.uD e = c.uD e)
    (V.need (c.nP ≤ c.nP)
    (V.need (∀ (i : Nat), i < c.nP → c.lenP i ≤ c.lenP i)
    (V.need (∀ (i e : Nat), i < c.nP ∧ e < c.lenP i → c.iO i e = c.iO i e)
    (V.need (∀ (i e : Nat), i < c.nP ∧ e < c.lenP i → c.iA i e = c.iA i e)
    (V.need (∀ (i e : Nat), i < c.nP ∧ e < c.lenP i → c.iB i e = c.iB i e)
    (V.need True
    (V.br (errE (Cf.mk c.W c.L c.C c.T c.D c.H c.B c.A c.P c.nP c.rc c.nU c.cu (fun (e : Nat) => c.lenP e) (fun (e : Nat) => c.FC e) (fun (i e : Nat) => c.iO i e) (fun (i e : Nat) => c.iA i e) (fun (i e : Nat) => c.iB i e) (fun (e : Nat) => c.uP e) (fun (e : Nat) => c.uL e) fun (e : Nat) => c.uD e) != Int.ofNat 0)
    (V.need True
    (V.need (Int.ofNat 0 = layN c c.W)
    (V.need (Int.ofNat 0 = layN c c.L)
    (V.need (Int.ofNat 0 = layN c c.C)
    (V.need (Int.ofNat 0 = layN c c.T)
    (V.need (Int.ofNat 0 = layN c c.D)
    (V.need (Int.ofNat 0 = layN c c.H)
    (V.need (Int.ofNat 0 = layN c (lS c))
    (V.need (Int.ofNat 0 = layN c (lE c))
    (V.need (Int.ofNat 0 = layN c (lB c))
    (V.need (Int.ofNat 0 = layN c (lQ c))
    (V.need (Int.ofNat 0 = layN c (lT c))
    (V.need (errE (Cf.mk c.W c.L c.C c.T c.D c.H c.B c.A c.P c.nP c.rc c.nU c.cu (fun (e : Nat) => c.lenP e) (fun (e : Nat) => c.FC e) (fun (i e : Nat) => c.iO i e) (fun (i e : Nat) => c.iA i e) (fun (i e : Nat) => c.iB i e) (fun (e : Nat) => c.uP e) (fun (e : Nat) => c.uL e) fun (e : Nat) => c.uD e) = errE c) V.ok)))))))))))))
    (V.need True
    (V.need (c.W = layN c c.W)
    (V.need (c.L = layN c c.L)
    (V.need (c.C = layN c c.C)
    (V.need (c.T = layN c c.T)
    (V.need (c.D = layN c c.D)
    (V.need (c.H = layN c c.H)
    (V.need (IntKind.i64.wrap (Int.ofNat 4 + c.H) = layN c (lS c))
    (V.need (IntKind.i64.wrap (IntKind.i64.wrap (Int.ofNat 4 + c.H) + c.C) = layN c (lE c))
    (V.need (IntKind.i64.wrap (IntKind.i64.wrap (IntKind.i64.wrap (Int.ofNat 4 + c.H) + c.C) + c.W) = layN c (lB c))
    (V.need (IntKind.i64.wrap (IntKind.i64.wrap (IntKind.i64.wrap (IntKind.i64.wrap (Int.ofNat 4 + c.H) + c.C) + c.W) + c.W) = layN c (lQ c))
    (V.need (IntKind.i64.wrap (IntKind.i64.wrap (IntKind.i64.wrap (IntKind.i64.wrap (IntKind.i64.wrap (Int.ofNat 4 + c.H) + c.C) + c.W) + c.W) + IntKind.i64.wrap (IntKind.i64.wrap (c.W * c.L) * IntKind.i64.wrap (Int.ofNat 2 + c.D))) = layN c (lT c))
    (V.need (Int.ofNat 0 = errE c) V.ok)))))))))))))))))))))))))))))))))))))))))) := by kernel_rfl

end Go.Proofs.Ytjpnpaboahbncaa.Vc


/- layout.New, for any configuration: the contract; LayoutCells: the law. -/
set_option linter.unusedVariables false
set_option linter.unusedSimpArgs false
set_option maxRecDepth 100000
namespace Go.Proofs.Ytjpnpaboahbncaa.Vc
open Go Go.RowKit Sx Cn Dc Ck
theorem layN_0 {c : Cf} {x : Int} (h : ¬ errE c = 0) : 0 = layN c x := by unfold layN; rw [if_neg h]
theorem layN_1 {c : Cf} {x : Int} (h : errE c = 0) : x = layN c x := by unfold layN; rw [if_pos h]
theorem okY_of {c : Cf} (h : errE c = 0) : okY c := okN_Y ((err_zero c).1 h).1
theorem vhNew (c : Cf) (_ : True) : VHolds (verNew c) := by
  constructor
  rw [verNew_eq]
  simp only [V.holds, Int.ofNat_eq_natCast, decide_eq_true_eq, decide_eq_false_iff_not, Bool.not_eq_true', Bool.not_eq_false', bne_iff_ne, bne_eq_false_iff_eq, ge_iff_le, true_and, and_true, eq_self, forall_const, true_implies, implies_true, Nat.le_refl, Int.cast_ofNat_Int, Int.natCast_zero, Nat.zero_lt_one, Nat.zero_add, cf_eta, ne_eq]
  refine ⟨fun h => ?_, fun h => ?_⟩
  · have z : ∀ x, 0 = layN c x := fun x => layN_0 h
    exact ⟨z _, z _, z _, z _, z _, z _, z _, z _, z _, z _, z _⟩
  · have W := wy (okY_of h)
    have z : ∀ x, x = layN c x := fun x => layN_1 h
    simp only [W.w1, W.w2, W.w5, W.w6, W.w7, W.w8, W.w10, W.w11]
    exact ⟨z _, z _, z _, z _, z _, z _, z _, z _, z _, z _, z _, h.symm⟩
noncomputable section
def conNew : List SV → Hp → Out (SV × Hp) := conCfP fun c => .need True (.leaf (layV c, ⟨[], 3, fun _ => True⟩))
theorem conNew_ok : ContractOK P 34 conNew := conCfP_ok fun c => local_of_ver0 conNw_ok (vhNew c)
end
end Go.Proofs.Ytjpnpaboahbncaa.Vc

