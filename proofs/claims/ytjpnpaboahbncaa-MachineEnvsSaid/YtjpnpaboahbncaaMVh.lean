/- Equal, of the program and of the reference: rows of three numbers; what is said of the loops. -/
import Derived.Test.YtjpnpaboahbncaaMVg
set_option linter.unusedVariables false
set_option linter.unusedSimpArgs false
set_option linter.unusedVariables false
set_option maxRecDepth 100000
namespace Go.Proofs.Ytjpnpaboahbncaa.Vc
open Go Go.RowKit Sx Cn Dc Ck
/-- A row of three numbers an element, as it stands in a block of such rows. -/
structure R3 where
  i : Nat
  n : Nat
  cap : Nat
  o : Nat → Nat → Int
  a : Nat → Nat → Int
  b : Nat → Nat → Int
def R3.same (r s : R3) (e : Nat) : Prop := r.o r.i e = s.o s.i e ∧ r.a r.i e = s.a s.i e ∧ r.b r.i e = s.b s.i e
def R3.eq (r s : R3) : Prop := r.n = s.n ∧ ∀ e, e < r.n → r.same s e
noncomputable section
open Classical in
def R3.eqB (r s : R3) : Bool := decide (r.eq s)
def R3.arg (r : R3) (k : Nat) : SV := .c (.slc k (.s r.i) (.k 0) 3 (.s r.n) (.s r.cap))
def R3.blk (r : R3) : Blk := .view (r.i + 1) (fun q => if q = r.i then r.n else 0) [.ci .i64 fun i e => r.o i e, .ci .i64 fun i e => r.a i e, .ci .i64 fun i e => r.b i e]
def eqI (r s : R3) (x : Int) : Prop := 0 ≤ x ∧ x ≤ r.n ∧ ∀ e : Nat, (e : Int) < x → r.same s e
def cntI (x : Int) (n : Int) : Prop := 0 ≤ x ∧ x ≤ n
def row3 (H : HL) (k : Nat) (i n cap : NV) : Option R3 := match find k H with
  | some b => match Ck.colsOf b with
    | [.ci _ o, .ci _ a, .ci _ b] => some ⟨i.v, n.v, cap.v, o, a, b⟩
    | _ => none
  | none => none
end
end Go.Proofs.Ytjpnpaboahbncaa.Vc


/- Equal: rows compared, the contracts; programs compared, what is said of the loop. -/
set_option linter.unusedVariables false
set_option linter.unusedSimpArgs false
set_option maxRecDepth 100000
namespace Go.Proofs.Ytjpnpaboahbncaa.Vc
open Go Go.RowKit Sx Cn Dc Ck
section
variable {r s : R3}
theorem eq_next {x : Int} (hr : r.n ≤ 1000000) (hx : eqI r s x) (hlt : x < r.n) (h : r.same s x.toNat) (e : Nat) (he : (e : Int) < IntKind.i64.wrap (x + 1)) : r.same s e := by
  have := hx.1
  rw [w64 (by omega)] at he
  by_cases g : (e : Int) < x
  · exact hx.2.2 e g
  · obtain rfl : e = x.toNat := by omega
    exact h
theorem w1 {x : Int} {n : Nat} (hn : n ≤ 1000000) (h0 : 0 ≤ x) (h : x < n) : IntKind.i64.wrap (x + 1) = x + 1 := w64 (by omega)
end
end Go.Proofs.Ytjpnpaboahbncaa.Vc


/- Equal: programs compared by EqualFunc; what is said of its loop. -/
set_option linter.unusedVariables false
set_option maxRecDepth 100000
namespace Go.Proofs.Ytjpnpaboahbncaa.Vc
open Go Go.RowKit Sx Cn Dc Ck
noncomputable section
def rowI (c : Cf) (i : Nat) : R3 := ⟨i, c.lenP i, c.FC i, fun i e => c.iO i e, fun i e => c.iA i e, fun i e => c.iB i e⟩
def rowU (c : Cf) : R3 := ⟨0, c.nU, c.cu, fun _ e => c.uP e, fun _ e => c.uL e, fun _ e => c.uD e⟩
def progEq (c d : Cf) : Prop := c.nP = d.nP ∧ ∀ i, i < c.nP → (rowI c i).eq (rowI d i)
def hP (k : Nat) (c : Cf) : HL := [(k, .view 1 (fun _ => c.nP) [.cs (k + 1) 3 (fun _ e => e) (fun _ e => c.lenP e) (fun _ e => c.FC e)]), (k + 1, .view c.nP c.lenP [.ci .i64 fun i e => c.iO i e, .ci .i64 fun i e => c.iA i e, .ci .i64 fun i e => c.iB i e])]
def preP (c : Cf) : Prop := c.nP ≤ 1000000 ∧ ∀ i, i < c.nP → c.lenP i ≤ 1000000
def pI' (c d : Cf) (x : Int) : Prop := 0 ≤ x ∧ x ≤ c.nP ∧ ∀ i : Nat, (i : Int) < x → (rowI c i).eq (rowI d i)
/-- The programs that a slice names. -/
def progOf (H : HL) (k : Nat) (nP rc : NV) : Option (Nat × Cf) := match find k H with
  | some b => match Ck.colsOf b with
    | [.cs kF _ _ ln cp] => match find kF H with
      | some bF => match Ck.colsOf bF with
        | [.ci _ o, .ci _ a, .ci _ b] => some (kF, ⟨0, 0, 0, 0, 0, 0, 0, 0, 0, nP.v, rc.v, 0, 0, fun e => ln 0 e, fun e => cp 0 e, o, a, b, fun _ => 0, fun _ => 0, fun _ => 0⟩)
        | _ => none
      | none => none
    | _ => none
  | none => none
end
end Go.Proofs.Ytjpnpaboahbncaa.Vc


/- Equal: programs compared, the contract; configurations compared: what is said of the loops. -/
set_option linter.unusedVariables false
set_option linter.unusedSimpArgs false
set_option maxRecDepth 100000
namespace Go.Proofs.Ytjpnpaboahbncaa.Vc
open Go Go.RowKit Sx Cn Dc Ck
section
variable {c d : Cf}
theorem pe_next' {x : Int} (hr : c.nP ≤ 1000000) (hx : pI' c d x) (hlt : x < c.nP) (h : (rowI c x.toNat).eq (rowI d x.toNat)) (e : Nat) (he : (e : Int) < IntKind.i64.wrap (x + 1)) : (rowI c e).eq (rowI d e) := by
  have := hx.1
  rw [w64 (by omega)] at he
  by_cases g : (e : Int) < x
  · exact hx.2.2 e g
  · obtain rfl : e = x.toNat := by omega
    exact h
theorem pe_pos {x : Int} (h : pI' c d x) : 0 ≤ x := h.1
theorem row_le {i j n : Nat} {F : Nat → Nat} (h : n = F j) : (if i = j then n else 0) ≤ F i := by split <;> simp_all
end
noncomputable section
def eqNum (c d : Cf) : Prop := c.W = d.W ∧ c.L = d.L ∧ c.C = d.C ∧ c.T = d.T ∧ c.D = d.D ∧ c.H = d.H ∧ c.B = d.B ∧ c.A = d.A ∧ c.P = d.P
def eqCfg (c d : Cf) : Prop := eqNum c d ∧ progEq c d ∧ (rowU c).eq (rowU d)
open Classical in
def eqCB (c d : Cf) : Bool := decide (eqCfg c d)
open Classical in
def eqNB (c d : Cf) : Bool := decide (eqNum c d)
def withN (c : Cf) (x : N9) : Cf := ⟨x.a0, x.a1, x.a2, x.a3, x.a4, x.a5, x.a6, x.a7, x.a8, c.nP, c.rc, c.nU, c.cu, fun e => c.lenP e, fun e => c.FC e, fun i e => c.iO i e, fun i e => c.iA i e, fun i e => c.iB i e, fun e => c.uP e, fun e => c.uL e, fun e => c.uD e⟩
def preE (c : Cf) : Prop := preP c ∧ c.nU ≤ 1000000
abbrev finB (n : Nat) (b : Bool) : SV → Hp → V := finV (X := Unit) n n (fun _ _ => some ()) (fun _ _ => []) (fun _ => True) (fun _ => .c (.bv b)) (fun _ => [])
def avEq (I1 : Int → Prop) (I2 : Nat → Int → Prop) (I3 : Int → Prop) (c : Cf) : AV := .loop Int [] (fun _ => some (cntL 5 I1 c.nP)) (.loop Int [] (fun s => (intT 5 s).map fun i => cntL 6 (I2 i.toNat) (c.lenP i.toNat)) .nil .nil) (.loop Int [] (fun _ => some (cntL 7 I3 c.nU)) .nil .nil)
def verEqR (c d : Cf) : V := verF P con3 3 4 60 [] (avEq (pI' c d) (fun i => eqI (rowI c i) (rowI d i)) (eqI (rowU c) (rowU d)) c) [argCm 0 c, argCm 3 d] ⟨hCm 0 c ++ hCm 3 d, 6, fun _ => True⟩ (finB 6 (eqCB c d))
def verEqR1 (c : Cf) (x : N9) : V := verF P con3 3 4 60 [] (avEq (fun x => cntI x c.nP) (fun i x => cntI x (c.lenP i)) (fun x => cntI x c.nU) c) [argCm 0 c, argCm 0 (withN c x)] ⟨hCm 0 c, 3, fun _ => True⟩ (finB 3 (eqNB c (withN c x)))
end
end Go.Proofs.Ytjpnpaboahbncaa.Vc


/- Equal: the conditions, printed by program. -/
set_option linter.unusedVariables false
set_option maxRecDepth 100000
namespace Go.Proofs.Ytjpnpaboahbncaa.Vc
open Go Go.RowKit Sx Cn Dc Ck

theorem verEqR_eq (c d : Cf) : verEqR c d =
  V.br (c.W != d.W)
    (V.need True
    (V.need (false = eqCB c d) V.ok))
    (V.br (c.L != d.L)
    (V.need True
    (V.need (false = eqCB c d) V.ok))
    (V.br (c.C != d.C)
    (V.need True
    (V.need (false = eqCB c d) V.ok))
    (V.br (c.T != d.T)
    (V.need True
    (V.need (false = eqCB c d) V.ok))
    (V.br (c.D != d.D)
    (V.need True
    (V.need (false = eqCB c d) V.ok))
    (V.br (c.H != d.H)
    (V.need True
    (V.need (false = eqCB c d) V.ok))
    (V.br (c.B != d.B)
    (V.need True
    (V.need (false = eqCB c d) V.ok))
    (V.br (c.A != d.A)
    (V.need True
    (V.need (false = eqCB c d) V.ok))
    (V.br (c.P != d.P)
    (V.need True
    (V.need (false = eqCB c d) V.ok))
    (V.br ((↑c.nP : Int) != (↑d.nP : Int))
    (V.need True
    (V.need (false = eqCB c d) V.ok))
    (V.br ((↑c.nU : Int) != (↑d.nU : Int))
    (V.need True
    (V.need (false = eqCB c d) V.ok))
    (V.need (Int.ofNat 0 ≤ Int.ofNat 0 ∧ Int.ofNat 0 ≤ (↑c.nP : Int) ∧ ∀ (i : Nat), (↑i : Int) < Int.ofNat 0 → (rowI c i).eq (rowI d i))
    (V.need (Int.ofNat 0 = Int.ofNat 0)
    (V.any Int (pI' c d) fun (x : Int) => V.need (0 < 1 ∧ 0 < 1)
    (V.need (0 < 1 ∧ 0 < 1)
    (V.br (decide (x < (↑c.nP : Int)))
    (V.need (0 < 1 ∧ 0 < 1)
    (V.need (0 < 1 ∧ 0 < 1)
    (V.need (Int.ofNat 0 ≤ x ∧ x < (↑c.nP : Int))
    (V.need (0 < 1 ∧ 0 + x.toNat < c.nP)
    (V.need (0 < 1 ∧ 0 + x.toNat < c.nP)
    (V.need (0 < 1 ∧ 0 < 1)
    (V.need (0 < 1 ∧ 0 < 1)
    (V.need (Int.ofNat 0 ≤ x ∧ x < (↑d.nP : Int))
    (V.need (0 < 1 ∧ 0 + x.toNat < d.nP)
    (V.need (0 < 1 ∧ 0 + x.toNat < d.nP)
    (V.br ((↑(c.lenP (0 + x.toNat)) : Int) != (↑(d.lenP (0 + x.toNat)) : Int))
    (V.need True
    (V.need (false = eqCB c d) V.ok))
    (V.need (Int.ofNat 0 ≤ Int.ofNat 0 ∧ Int.ofNat 0 ≤ (↑(c.lenP x.toNat) : Int) ∧ ∀ (e : Nat), (↑e : Int) < Int.ofNat 0 → (rowI c x.toNat).same (rowI d x.toNat) e)
    (V.need (Int.ofNat 0 = Int.ofNat 0)
    (V.any Int (eqI (rowI c x.toNat) (rowI d x.toNat)) fun (x_1 : Int) => V.need (0 < 1 ∧ 0 < 1)
    (V.need (0 < 1 ∧ 0 < 1)
    (V.need (Int.ofNat 0 ≤ x ∧ x < (↑c.nP : Int))
    (V.need (0 < 1 ∧ 0 + x.toNat < c.nP)
    (V.need (0 < 1 ∧ 0 + x.toNat < c.nP)
    (V.br (decide (x_1 < (↑(c.lenP (0 + x.toNat)) : Int)))
    (V.need (0 < 1 ∧ 0 < 1)
    (V.need (0 < 1 ∧ 0 < 1)
    (V.need (Int.ofNat 0 ≤ x ∧ x < (↑c.nP : Int))
    (V.need (0 < 1 ∧ 0 + x.toNat < c.nP)
    (V.need (0 < 1 ∧ 0 + x.toNat < c.nP)
    (V.need (Int.ofNat 0 ≤ x_1 ∧ x_1 < (↑(c.lenP (0 + x.toNat)) : Int))
    (V.need (0 + x.toNat < c.nP ∧ 0 + x_1.toNat < c.lenP (0 + x.toNat))
    (V.need (0 + x.toNat < c.nP ∧ 0 + x_1.toNat < c.lenP (0 + x.toNat))
    (V.need (0 + x.toNat < c.nP ∧ 0 + x_1.toNat < c.lenP (0 + x.toNat))
    (V.need (0 + x.toNat < c.nP ∧ 0 + x_1.toNat < c.lenP (0 + x.toNat))
    (V.need (0 < 1 ∧ 0 < 1)
    (V.need (0 < 1 ∧ 0 < 1)
    (V.need (Int.ofNat 0 ≤ x ∧ x < (↑d.nP : Int))
    (V.need (0 < 1 ∧ 0 + x.toNat < d.nP)
    (V.need (0 < 1 ∧ 0 + x.toNat < d.nP)
    (V.need (Int.ofNat 0 ≤ x_1 ∧ x_1 < (↑(d.lenP (0 + x.toNat)) : Int))
    (V.need (0 + x.toNat < d.nP ∧ 0 + x_1.toNat < d.lenP (0 + x.toNat))
    (V.need (0 + x.toNat < d.nP ∧ 0 + x_1.toNat < d.lenP (0 + x.toNat))
    (V.need (0 + x.toNat < d.nP ∧ 0 + x_1.toNat < d.lenP (0 + x.toNat))
    (V.need (0 + x.toNat < d.nP ∧ 0 + x_1.toNat < d.lenP (0 + x.toNat))
    (V.br (!(c.iO (0 + x.toNat) (0 + x_1.toNat) == d.iO (0 + x.toNat) (0 + x_1.toNat) && (c.iA (0 + x.toNat) (0 + x_1.toNat) == d.iA (0 + x.toNat) (0 + x_1.toNat) && (c.iB (0 + x.toNat) (0 + x_1.toNat) == d.iB (0 + x.toNat) (0 + x_1.toNat) && true))))
    (V.need True
    (V.need (false = eqCB c d) V.ok))
    (V.need (Int.ofNat 0 ≤ IntKind.i64.wrap (x_1 + Int.ofNat 1) ∧ IntKind.i64.wrap (x_1 + Int.ofNat 1) ≤ (↑(c.lenP x.toNat) : Int) ∧ ∀ (e : Nat), (↑e : Int) < IntKind.i64.wrap (x_1 + Int.ofNat 1) → (rowI c x.toNat).same (rowI d x.toNat) e)
    (V.need (c.lenP x.toNat - (IntKind.i64.wrap (x_1 + Int.ofNat 1)).toNat < c.lenP x.toNat - x_1.toNat)
    (V.need (IntKind.i64.wrap (x_1 + Int.ofNat 1) = IntKind.i64.wrap (x_1 + Int.ofNat 1)) V.ok))))))))))))))))))))))))
    (V.need (Int.ofNat 0 ≤ IntKind.i64.wrap (x + Int.ofNat 1) ∧ IntKind.i64.wrap (x + Int.ofNat 1) ≤ (↑c.nP : Int) ∧ ∀ (i : Nat), (↑i : Int) < IntKind.i64.wrap (x + Int.ofNat 1) → (rowI c i).eq (rowI d i))
    (V.need (c.nP - (IntKind.i64.wrap (x + Int.ofNat 1)).toNat < c.nP - x.toNat)
    (V.need (IntKind.i64.wrap (x + Int.ofNat 1) = IntKind.i64.wrap (x + Int.ofNat 1)) V.ok))))))))))))))))))))))
    (V.need (Int.ofNat 0 ≤ Int.ofNat 0 ∧ Int.ofNat 0 ≤ (↑c.nU : Int) ∧ ∀ (e : Nat), (↑e : Int) < Int.ofNat 0 → (rowU c).same (rowU d) e)
    (V.need (Int.ofNat 0 = Int.ofNat 0)
    (V.any Int (eqI (rowU c) (rowU d)) fun (x : Int) => V.need (0 < 1 ∧ 0 < 1)
    (V.need (0 < 1 ∧ 0 < 1)
    (V.br (decide (x < (↑c.nU : Int)))
    (V.need (0 < 1 ∧ 0 < 1)
    (V.need (0 < 1 ∧ 0 < 1)
    (V.need (Int.ofNat 0 ≤ x ∧ x < (↑c.nU : Int))
    (V.need (0 < 1 ∧ 0 + x.toNat < c.nU)
    (V.need (0 < 1 ∧ 0 + x.toNat < c.nU)
    (V.need (0 < 1 ∧ 0 + x.toNat < c.nU)
    (V.need (0 < 1 ∧ 0 + x.toNat < c.nU)
    (V.need (0 < 1 ∧ 0 < 1)
    (V.need (0 < 1 ∧ 0 < 1)
    (V.need (Int.ofNat 0 ≤ x ∧ x < (↑d.nU : Int))
    (V.need (0 < 1 ∧ 0 + x.toNat < d.nU)
    (V.need (0 < 1 ∧ 0 + x.toNat < d.nU)
    (V.need (0 < 1 ∧ 0 + x.toNat < d.nU)
    (V.need (0 < 1 ∧ 0 + x.toNat < d.nU)
    (V.br (!(c.uP (0 + x.toNat) == d.uP (0 + x.toNat) && (c.uL (0 + x.toNat) == d.uL (0 + x.toNat) && (c.uD (0 + x.toNat) == d.uD (0 + x.toNat) && true))))
    (V.need True
    (V.need (false = eqCB c d) V.ok))
    (V.need (Int.ofNat 0 ≤ IntKind.i64.wrap (x + Int.ofNat 1) ∧ IntKind.i64.wrap (x + Int.ofNat 1) ≤ (↑c.nU : Int) ∧ ∀ (e : Nat), (↑e : Int) < IntKind.i64.wrap (x + Int.ofNat 1) → (rowU c).same (rowU d) e)
    (V.need (c.nU - (IntKind.i64.wrap (x + Int.ofNat 1)).toNat < c.nU - x.toNat)
    (V.need (IntKind.i64.wrap (x + Int.ofNat 1) = IntKind.i64.wrap (x + Int.ofNat 1)) V.ok))))))))))))))))))
    (V.need True
    (V.need (true = eqCB c d) V.ok)))))))))))))))))))))) := by kernel_rfl

theorem verEqR1_eq (c : Cf) (x : N9) : verEqR1 c x =
  V.br (c.W != x.a0)
    (V.need True
    (V.need (false = eqNB c (withN c x)) V.ok))
    (V.br (c.L != x.a1)
    (V.need True
    (V.need (false = eqNB c (withN c x)) V.ok))
    (V.br (c.C != x.a2)
    (V.need True
    (V.need (false = eqNB c (withN c x)) V.ok))
    (V.br (c.T != x.a3)
    (V.need True
    (V.need (false = eqNB c (withN c x)) V.ok))
    (V.br (c.D != x.a4)
    (V.need True
    (V.need (false = eqNB c (withN c x)) V.ok))
    (V.br (c.H != x.a5)
    (V.need True
    (V.need (false = eqNB c (withN c x)) V.ok))
    (V.br (c.B != x.a6)
    (V.need True
    (V.need (false = eqNB c (withN c x)) V.ok))
    (V.br (c.A != x.a7)
    (V.need True
    (V.need (false = eqNB c (withN c x)) V.ok))
    (V.br (c.P != x.a8)
    (V.need True
    (V.need (false = eqNB c (withN c x)) V.ok))
    (V.br ((↑c.nP : Int) != (↑c.nP : Int))
    (V.need True
    (V.need (false = eqNB c (withN c x)) V.ok))
    (V.br ((↑c.nU : Int) != (↑c.nU : Int))
    (V.need True
    (V.need (false = eqNB c (withN c x)) V.ok))
    (V.need (Int.ofNat 0 ≤ Int.ofNat 0 ∧ Int.ofNat 0 ≤ (↑c.nP : Int))
    (V.need (Int.ofNat 0 = Int.ofNat 0)
    (V.any Int (fun (x : Int) => cntI x (↑c.nP : Int)) fun (x_1 : Int) => V.need (0 < 1 ∧ 0 < 1)
    (V.need (0 < 1 ∧ 0 < 1)
    (V.br (decide (x_1 < (↑c.nP : Int)))
    (V.need (0 < 1 ∧ 0 < 1)
    (V.need (0 < 1 ∧ 0 < 1)
    (V.need (Int.ofNat 0 ≤ x_1 ∧ x_1 < (↑c.nP : Int))
    (V.need (0 < 1 ∧ 0 + x_1.toNat < c.nP)
    (V.need (0 < 1 ∧ 0 + x_1.toNat < c.nP)
    (V.need (0 < 1 ∧ 0 < 1)
    (V.need (0 < 1 ∧ 0 < 1)
    (V.need (Int.ofNat 0 ≤ x_1 ∧ x_1 < (↑c.nP : Int))
    (V.need (0 < 1 ∧ 0 + x_1.toNat < c.nP)
    (V.need (0 < 1 ∧ 0 + x_1.toNat < c.nP)
    (V.br ((↑(c.lenP (0 + x_1.toNat)) : Int) != (↑(c.lenP (0 + x_1.toNat)) : Int))
    (V.need True
    (V.need (false = eqNB c (withN c x)) V.ok))
    (V.need (Int.ofNat 0 ≤ Int.ofNat 0 ∧ Int.ofNat 0 ≤ (↑(c.lenP x_1.toNat) : Int))
    (V.need (Int.ofNat 0 = Int.ofNat 0)
    (V.any Int (fun (x : Int) => cntI x (↑(c.lenP x_1.toNat) : Int)) fun (x_2 : Int) => V.need (0 < 1 ∧ 0 < 1)
    (V.need (0 < 1 ∧ 0 < 1)
    (V.need (Int.ofNat 0 ≤ x_1 ∧ x_1 < (↑c.nP : Int))
    (V.need (0 < 1 ∧ 0 + x_1.toNat < c.nP)
    (V.need (0 < 1 ∧ 0 + x_1.toNat < c.nP)
    (V.br (decide (x_2 < (↑(c.lenP (0 + x_1.toNat)) : Int)))
    (V.need (0 < 1 ∧ 0 < 1)
    (V.need (0 < 1 ∧ 0 < 1)
    (V.need (Int.ofNat 0 ≤ x_1 ∧ x_1 < (↑c.nP : Int))
    (V.need (0 < 1 ∧ 0 + x_1.toNat < c.nP)
    (V.need (0 < 1 ∧ 0 + x_1.toNat < c.nP)
    (V.need (Int.ofNat 0 ≤ x_2 ∧ x_2 < (↑(c.lenP (0 + x_1.toNat)) : Int))
    (V.need (0 + x_1.toNat < c.nP ∧ 0 + x_2.toNat < c.lenP (0 + x_1.toNat))
    (V.need (0 + x_1.toNat < c.nP ∧ 0 + x_2.toNat < c.lenP (0 + x_1.toNat))
    (V.need (0 + x_1.toNat < c.nP ∧ 0 + x_2.toNat < c.lenP (0 + x_1.toNat))
    (V.need (0 + x_1.toNat < c.nP ∧ 0 + x_2.toNat < c.lenP (0 + x_1.toNat))
    (V.need (0 < 1 ∧ 0 < 1)
    (V.need (0 < 1 ∧ 0 < 1)
    (V.need (Int.ofNat 0 ≤ x_1 ∧ x_1 < (↑c.nP : Int))
    (V.need (0 < 1 ∧ 0 + x_1.toNat < c.nP)
    (V.need (0 < 1 ∧ 0 + x_1.toNat < c.nP)
    (V.need (Int.ofNat 0 ≤ x_2 ∧ x_2 < (↑(c.lenP (0 + x_1.toNat)) : Int))
    (V.need (0 + x_1.toNat < c.nP ∧ 0 + x_2.toNat < c.lenP (0 + x_1.toNat))
    (V.need (0 + x_1.toNat < c.nP ∧ 0 + x_2.toNat < c.lenP (0 + x_1.toNat))
    (V.need (0 + x_1.toNat < c.nP ∧ 0 + x_2.toNat < c.lenP (0 + x_1.toNat))
    (V.need (0 + x_1.toNat < c.nP ∧ 0 + x_2.toNat < c.lenP (0 + x_1.toNat))
    (V.br (!(c.iO (0 + x_1.toNat) (0 + x_2.toNat) == c.iO (0 + x_1.toNat) (0 + x_2.toNat) && (c.iA (0 + x_1.toNat) (0 + x_2.toNat) == c.iA (0 + x_1.toNat) (0 + x_2.toNat) && (c.iB (0 + x_1.toNat) (0 + x_2.toNat) == c.iB (0 + x_1.toNat) (0 + x_2.toNat) && true))))
    (V.need True
    (V.need (false = eqNB c (withN c x)) V.ok))
    (V.need (Int.ofNat 0 ≤ IntKind.i64.wrap (x_2 + Int.ofNat 1) ∧ IntKind.i64.wrap (x_2 + Int.ofNat 1) ≤ (↑(c.lenP x_1.toNat) : Int))
    (V.need (c.lenP x_1.toNat - (IntKind.i64.wrap (x_2 + Int.ofNat 1)).toNat < c.lenP x_1.toNat - x_2.toNat)
    (V.need (IntKind.i64.wrap (x_2 + Int.ofNat 1) = IntKind.i64.wrap (x_2 + Int.ofNat 1)) V.ok))))))))))))))))))))))))
    (V.need (Int.ofNat 0 ≤ IntKind.i64.wrap (x_1 + Int.ofNat 1) ∧ IntKind.i64.wrap (x_1 + Int.ofNat 1) ≤ (↑c.nP : Int))
    (V.need (c.nP - (IntKind.i64.wrap (x_1 + Int.ofNat 1)).toNat < c.nP - x_1.toNat)
    (V.need (IntKind.i64.wrap (x_1 + Int.ofNat 1) = IntKind.i64.wrap (x_1 + Int.ofNat 1)) V.ok))))))))))))))))))))))
    (V.need (Int.ofNat 0 ≤ Int.ofNat 0 ∧ Int.ofNat 0 ≤ (↑c.nU : Int))
    (V.need (Int.ofNat 0 = Int.ofNat 0)
    (V.any Int (fun (x : Int) => cntI x (↑c.nU : Int)) fun (x_2 : Int) => V.need (0 < 1 ∧ 0 < 1)
    (V.need (0 < 1 ∧ 0 < 1)
    (V.br (decide (x_2 < (↑c.nU : Int)))
    (V.need (0 < 1 ∧ 0 < 1)
    (V.need (0 < 1 ∧ 0 < 1)
    (V.need (Int.ofNat 0 ≤ x_2 ∧ x_2 < (↑c.nU : Int))
    (V.need (0 < 1 ∧ 0 + x_2.toNat < c.nU)
    (V.need (0 < 1 ∧ 0 + x_2.toNat < c.nU)
    (V.need (0 < 1 ∧ 0 + x_2.toNat < c.nU)
    (V.need (0 < 1 ∧ 0 + x_2.toNat < c.nU)
    (V.need (0 < 1 ∧ 0 < 1)
    (V.need (0 < 1 ∧ 0 < 1)
    (V.need (Int.ofNat 0 ≤ x_2 ∧ x_2 < (↑c.nU : Int))
    (V.need (0 < 1 ∧ 0 + x_2.toNat < c.nU)
    (V.need (0 < 1 ∧ 0 + x_2.toNat < c.nU)
    (V.need (0 < 1 ∧ 0 + x_2.toNat < c.nU)
    (V.need (0 < 1 ∧ 0 + x_2.toNat < c.nU)
    (V.br (!(c.uP (0 + x_2.toNat) == c.uP (0 + x_2.toNat) && (c.uL (0 + x_2.toNat) == c.uL (0 + x_2.toNat) && (c.uD (0 + x_2.toNat) == c.uD (0 + x_2.toNat) && true))))
    (V.need True
    (V.need (false = eqNB c (withN c x)) V.ok))
    (V.need (Int.ofNat 0 ≤ IntKind.i64.wrap (x_2 + Int.ofNat 1) ∧ IntKind.i64.wrap (x_2 + Int.ofNat 1) ≤ (↑c.nU : Int))
    (V.need (c.nU - (IntKind.i64.wrap (x_2 + Int.ofNat 1)).toNat < c.nU - x_2.toNat)
    (V.need (IntKind.i64.wrap (x_2 + Int.ofNat 1) = IntKind.i64.wrap (x_2 + Int.ofNat 1)) V.ok))))))))))))))))))
    (V.need True
    (V.need (true = eqNB c (withN c x)) V.ok)))))))))))))))))))))) := by kernel_rfl


end Go.Proofs.Ytjpnpaboahbncaa.Vc


/- Equal, of the program and of the reference: the contracts. -/
set_option linter.unusedVariables false
set_option linter.unusedSimpArgs false
set_option maxRecDepth 100000
namespace Go.Proofs.Ytjpnpaboahbncaa.Vc
open Go Go.RowKit Sx Cn Dc Ck
section
variable {c d : Cf}
open Classical in
theorem cq_f (h : ¬ eqCfg c d) : false = eqCB c d := by unfold eqCB; exact (decide_eq_false h).symm
open Classical in
theorem cq_t (h : eqCfg c d) : true = eqCB c d := by unfold eqCB; exact (decide_eq_true h).symm
open Classical in
theorem nq_f (h : ¬ eqNum c d) : false = eqNB c d := by unfold eqNB; exact (decide_eq_false h).symm
open Classical in
theorem nq_t (h : eqNum c d) : true = eqNB c d := by unfold eqNB; exact (decide_eq_true h).symm
theorem cq_num (h : ¬ eqNum c d) : false = eqCB c d := cq_f fun g => h g.1
theorem cq_nP (h : ¬ (c.nP : Int) = d.nP) : false = eqCB c d := cq_f fun g => h (by rw [g.2.1.1])
theorem cq_nU (h : ¬ (c.nU : Int) = d.nU) : false = eqCB c d := cq_f fun g => h (by have := g.2.2.1; exact congrArg (Int.ofNat ·) this)
theorem cq_len {x : Int} (hx : pI' c d x) (hlt : x < c.nP) (h : ¬ (c.lenP x.toNat : Int) = d.lenP x.toNat) : false = eqCB c d :=
  cq_f fun g => h (by have := (g.2.1.2 x.toNat (by have := hx.1; omega)).1; exact congrArg (Int.ofNat ·) this)
theorem cq_at {x y : Int} (hx : pI' c d x) (hlt : x < c.nP) (hy : eqI (rowI c x.toNat) (rowI d x.toNat) y) (hy' : y < c.lenP x.toNat)
    (h : c.iO x.toNat y.toNat = d.iO x.toNat y.toNat → c.iA x.toNat y.toNat = d.iA x.toNat y.toNat → ¬ c.iB x.toNat y.toNat = d.iB x.toNat y.toNat) : false = eqCB c d :=
  cq_f fun g => by
    have h1 := (g.2.1.2 x.toNat (by have := hx.1; omega)).2 y.toNat (by have := hy.1; show y.toNat < c.lenP x.toNat; omega)
    exact h h1.1 h1.2.1 h1.2.2
theorem row_end {x y : Int} (hy : eqI (rowI c x.toNat) (rowI d x.toNat) y) (hn : (c.lenP x.toNat : Int) = d.lenP x.toNat) (h : ¬ y < c.lenP x.toNat) : (rowI c x.toNat).eq (rowI d x.toNat) :=
  ⟨show c.lenP x.toNat = d.lenP x.toNat by omega, fun e he => hy.2.2 e (by have : e < c.lenP x.toNat := he; omega)⟩
theorem cq_u {y : Int} (hy : eqI (rowU c) (rowU d) y) (hy' : y < c.nU) (h : c.uP y.toNat = d.uP y.toNat → c.uL y.toNat = d.uL y.toNat → ¬ c.uD y.toNat = d.uD y.toNat) : false = eqCB c d :=
  cq_f fun g => by
    have h1 := g.2.2.2 y.toNat (by have := hy.1; show y.toNat < c.nU; omega)
    exact h h1.1 h1.2.1 h1.2.2
theorem cq_end {x y : Int} (hn : eqNum c d) (hP : (c.nP : Int) = d.nP) (hU : (c.nU : Int) = d.nU) (hx : pI' c d x) (hx' : ¬ x < c.nP) (hy : eqI (rowU c) (rowU d) y) (hy' : ¬ y < c.nU) : true = eqCB c d :=
  cq_t ⟨hn, ⟨by omega, fun i hi => hx.2.2 i (by omega)⟩, ⟨show c.nU = d.nU by omega, fun e he => hy.2.2 e (by have : e < c.nU := he; omega)⟩⟩
theorem row_next {x y : Int} (hy : eqI (rowI c x.toNat) (rowI d x.toNat) y) (h1 : c.lenP x.toNat ≤ 1000000) (hlt : y < c.lenP x.toNat) (h : c.iO x.toNat y.toNat = d.iO x.toNat y.toNat ∧ c.iA x.toNat y.toNat = d.iA x.toNat y.toNat ∧ c.iB x.toNat y.toNat = d.iB x.toNat y.toNat) (e : Nat) (he : (e : Int) < IntKind.i64.wrap (y + 1)) : (rowI c x.toNat).same (rowI d x.toNat) e :=
  eq_next h1 hy hlt h e he
theorem rowU_next {y : Int} (hy : eqI (rowU c) (rowU d) y) (h1 : c.nU ≤ 1000000) (hlt : y < c.nU) (h : c.uP y.toNat = d.uP y.toNat ∧ c.uL y.toNat = d.uL y.toNat ∧ c.uD y.toNat = d.uD y.toNat) (e : Nat) (he : (e : Int) < IntKind.i64.wrap (y + 1)) : (rowU c).same (rowU d) e :=
  eq_next h1 hy hlt h e he
theorem ltn {x : Int} {n : Nat} (h : x < (n : Int)) (h0 : 0 ≤ x) : x.toNat < n := by omega
theorem eqI_0 {r s : R3} {y : Int} (h : eqI r s y) : 0 ≤ y := h.1
end
theorem vhEqR {c d : Cf} (h : preE c) : VHolds (verEqR c d) := by
  constructor
  rw [verEqR_eq]
  obtain ⟨⟨hp, hl⟩, hu⟩ := h
  simp only [V.holds, Int.ofNat_eq_natCast, decide_eq_true_eq, decide_eq_false_iff_not, Bool.not_eq_true', Bool.not_eq_false', bne_iff_ne, bne_eq_false_iff_eq, beq_iff_eq, beq_eq_false_iff_ne, ne_eq, true_and, and_true, forall_const, true_implies, implies_true, Nat.zero_add, Nat.sub_zero, Nat.lt_add_one, Nat.zero_lt_one, Int.natCast_zero, Int.natCast_one, Int.cast_ofNat_Int, gt_iff_lt, and_self, eq_self, Nat.le_refl, if_true, Bool.and_true, Bool.and_eq_true, Bool.and_eq_false_imp]
  repeat' first | exact True.intro | with_reducible apply And.intro | intro _
  all_goals try (have h0 := pe_pos (by assumption))
  all_goals try (have h1 := hl _ (ltn (n := c.nP) (by assumption) (by omega)))
  all_goals try (have h2 := eqI_0 (by assumption))
  all_goals first
    | omega
    | (rw [w1 hp h0 (by assumption)]; omega)
    | (rw [w1 h1 h2 (by assumption)]; omega)
    | (rw [w1 hu h2 (by assumption)]; omega)
    | exact cq_num (by unfold eqNum; omega)
    | exact cq_nP (by assumption)
    | exact cq_nU (by assumption)
    | exact cq_len (by assumption) (by assumption) (by assumption)
    | exact cq_at (by assumption) (by assumption) (by assumption) (by assumption) (by assumption)
    | exact cq_u (by assumption) (by assumption) (by assumption)
    | exact row_next (by assumption) h1 (by assumption) (by assumption) _ (by assumption)
    | exact rowU_next (by assumption) hu (by assumption) (by assumption) _ (by assumption)
    | exact pe_next' hp (by assumption) (by assumption) (row_end (by assumption) (by assumption) (by assumption)) _ (by assumption)
    | exact cq_end (by unfold eqNum; omega) (by assumption) (by assumption) (by assumption) (by assumption) (by assumption) (by assumption)
theorem vhEqR1 {c : Cf} {x : N9} (h : preE c) : VHolds (verEqR1 c x) := by
  constructor
  rw [verEqR1_eq]
  obtain ⟨⟨hp, hl⟩, hu⟩ := h
  simp only [V.holds, cntI, Int.ofNat_eq_natCast, decide_eq_true_eq, decide_eq_false_iff_not, Bool.not_eq_true', Bool.not_eq_false', bne_iff_ne, bne_eq_false_iff_eq, beq_iff_eq, beq_eq_false_iff_ne, ne_eq, true_and, and_true, forall_const, true_implies, implies_true, Nat.zero_add, Nat.sub_zero, Nat.lt_add_one, Nat.zero_lt_one, Int.natCast_zero, Int.natCast_one, Int.cast_ofNat_Int, gt_iff_lt, and_self, eq_self, Nat.le_refl, if_true, Bool.and_true, Bool.and_eq_true, Bool.and_eq_false_imp, not_true_eq_false, false_implies, beq_self_eq_true, Bool.and_self]
  repeat' first | exact True.intro | with_reducible apply And.intro | intro _
  all_goals try (have h1 := hl _ (ltn (n := c.nP) (by assumption) (by omega)))
  all_goals first
    | omega
    | contradiction
    | (rw [w1 hp (by omega) (by assumption)]; omega)
    | (rw [w1 h1 (by omega) (by assumption)]; omega)
    | (rw [w1 hu (by omega) (by assumption)]; omega)
    | exact nq_f (by unfold eqNum withN; simp only; omega)
    | exact nq_t (by unfold eqNum withN; simp only; omega)
end Go.Proofs.Ytjpnpaboahbncaa.Vc


/- Equal in use; ConfigDecodes. -/
set_option linter.unusedVariables false
set_option linter.unusedSimpArgs false
set_option maxRecDepth 100000
namespace Go.Proofs.Ytjpnpaboahbncaa.Vc
open Go Go.RowKit Sx Cn Dc Ck
noncomputable section
def three : List Nat → Option (Nat × Nat × Nat)
  | [a, b, c] => some (a, b, c)
  | _ => none
structure EqA where
  c : Cf
  d : Cf
  x : N9
  k : Nat × Nat × Nat
  m : Nat × Nat × Nat
def eqArgs (args : List SV) (H : HL) : Option EqA := match args with
  | [s, t] => (rdCf s H).bind fun p => (rdCf t H).bind fun q => (rd9 t).bind fun x => (three p.2).bind fun k => (three q.2).map fun m => ⟨p.1, q.1, x, k, m⟩
  | _ => none
/-- Two configurations: apart, or with the same slices. -/
def conEq : List SV → Hp → Out (SV × Hp) := fun args H => match eqArgs args H.h with
  | some a => fN a.k.1 fun k0 => fN a.k.2.1 fun k1 => fN a.k.2.2 fun k2 => fN a.m.1 fun k3 => fN a.m.2.1 fun k4 => fN a.m.2.2 fun k5 => (match Nat.beq k0 k3 with
    | true => useP [k0, k1, k2] 3 [argCm 0 a.c, argCm 0 (withN a.c a.x)] (hCm 0 a.c) (.need (preE a.c) (.leaf (.c (.bv (eqNB a.c (withN a.c a.x))), ⟨[], 3, fun _ => True⟩))) args H
    | false => useP [k0, k1, k2, k3, k4, k5] 6 [argCm 0 a.c, argCm 3 a.d] (hCm 0 a.c ++ hCm 3 a.d) (.need (preE a.c) (.leaf (.c (.bv (eqCB a.c a.d)), ⟨[], 6, fun _ => True⟩))) args H)
  | none => .bad 440
theorem conEqR_ok : ContractOK P 60 conEq := contract_of_useP fun args H => by
  unfold conEq
  simp only [fN_eq]
  split
  · rename_i a _
    split
    · exact .inr ⟨_, _, _, _, _, rfl, local_of_ver0 con3_ok (vhEqR1 (c := a.c) (x := a.x))⟩
    · exact .inr ⟨_, _, _, _, _, rfl, local_of_ver0 con3_ok (vhEqR (c := a.c) (d := a.d))⟩
  · exact .inl ⟨_, rfl⟩
end
theorem small_preE {d : Cf} (h : smallC d) : preE d := ⟨⟨by have := h.1; omega, fun i hi => by have := h.2.1 i hi; omega⟩, by have := h.1; omega⟩
end Go.Proofs.Ytjpnpaboahbncaa.Vc

