/- Configurations as arguments; Check of valid ones. -/
import Derived.Test.YtjpnpaboahbncaaMDc
set_option linter.unusedVariables false
set_option linter.unusedSimpArgs false
set_option linter.unusedVariables false
namespace Go.Proofs.Ytjpnpaboahbncaa.Ck
open Go Go.RowKit Sx Cn Dc
noncomputable section
/-- A configuration: its numbers, its programs, its submissions (and the capacities of its slices). -/
structure Cf where
  W : Int
  L : Int
  C : Int
  T : Int
  D : Int
  H : Int
  B : Int
  A : Int
  P : Int
  nP : Nat
  rc : Nat
  nU : Nat
  cu : Nat
  lenP : Nat → Nat
  FC : Nat → Nat
  iO : Nat → Nat → Int
  iA : Nat → Nat → Int
  iB : Nat → Nat → Int
  uP : Nat → Int
  uL : Nat → Int
  uD : Nat → Int
section
variable (c : Cf)
def argC : SV := .a [.iv .i64 c.W, .iv .i64 c.L, .iv .i64 c.C, .iv .i64 c.T, .iv .i64 c.D, .iv .i64 c.H, .iv .i64 c.B, .iv .i64 c.A, .iv .i64 c.P, slK 0 1 c.nP c.rc, slK 1 3 c.nU c.cu]
def hC : HL := [(0, .view 1 (fun _ => c.nP) [.cs 2 3 (fun _ e => e) (fun _ e => c.lenP e) (fun _ e => c.FC e)]), (1, .view 1 (fun _ => c.nU) [.ci .i64 fun _ e => c.uP e, .ci .i64 fun _ e => c.uL e, .ci .i64 fun _ e => c.uD e]), (2, .view c.nP c.lenP [.ci .i64 fun i e => c.iO i e, .ci .i64 fun i e => c.iA i e, .ci .i64 fun i e => c.iB i e])]
def okN : Prop := (1 ≤ c.W ∧ c.W ≤ 16) ∧ (1 ≤ c.L ∧ c.L ≤ 64) ∧ (1 ≤ c.C ∧ c.C ≤ min 8 c.L) ∧ (1 ≤ c.T ∧ c.T ≤ 256) ∧ (1 ≤ c.D ∧ c.D ≤ 64) ∧ (1 ≤ c.H ∧ c.H ≤ 64) ∧ (1 ≤ c.B ∧ c.B ≤ c.D) ∧ (0 ≤ c.A ∧ c.A ≤ 65536) ∧ (1 ≤ c.P ∧ c.P ≤ 65536)
def okI (i e : Nat) : Prop := (c.iO i e = 0 ∧ (1 ≤ c.iA i e ∧ c.iA i e ≤ 64) ∧ c.iB i e = 0) ∨ (c.iO i e = 1 ∧ (0 ≤ c.iA i e ∧ c.iA i e ≤ (c.nP : Int) - 1) ∧ (0 ≤ c.iB i e ∧ c.iB i e ≤ c.L - 1)) ∨ (c.iO i e = 2 ∧ (0 ≤ c.iA i e ∧ c.iA i e ≤ 31) ∧ c.iB i e = 0)
def okP : Prop := (1 ≤ c.nP ∧ c.nP ≤ 32) ∧ ∀ i, i < c.nP → c.lenP i ≤ 32 ∧ ∀ e, e < c.lenP i → okI c i e
def okU : Prop := c.nU ≤ 64 ∧ ∀ e, e < c.nU → (0 ≤ c.uP e ∧ c.uP e ≤ (c.nP : Int) - 1) ∧ (0 ≤ c.uL e ∧ c.uL e ≤ c.L - 1) ∧ (0 ≤ c.uD e ∧ c.uD e ≤ 16777215)
def okC : Prop := okN c ∧ okP c ∧ okU c
end
def colsOf : Blk → List Col
  | .row _ _ _ l => l
  | .fam _ _ _ _ l => l
  | .view _ _ l => l
  | _ => []
def numC : SC → Option Int
  | .iv _ x => some x
  | .ki _ x => some x
  | _ => none
/-- The blocks that a configuration's slices name. -/
def cfBlk (H : HL) (kr ku : Nat) (K : Nat → (Nat → Nat → Nat) → (Nat → Nat → Nat) → (Nat → Nat → Int) → (Nat → Nat → Int) → (Nat → Nat → Int) → (Nat → Nat → Int) → (Nat → Nat → Int) → (Nat → Nat → Int) → Out (SV × Hp)) : Out (SV × Hp) :=
  match find kr H, find ku H with
  | some br, some bu => match colsOf br, colsOf bu with
    | [.cs kF _ _ ln cp], [.ci _ f, .ci _ g, .ci _ h] => match find kF H with
      | some bF => match colsOf bF with
        | [.ci _ o, .ci _ a, .ci _ b] => fN kF fun kF => K kF ln cp o a b f g h
        | _ => .bad 430
      | _ => .bad 431
    | _, _ => .bad 432
  | _, _ => .bad 433
theorem cfBlk_ok (H : HL) (kr ku : Nat) (K : Nat → (Nat → Nat → Nat) → (Nat → Nat → Nat) → (Nat → Nat → Int) → (Nat → Nat → Int) → (Nat → Nat → Int) → (Nat → Nat → Int) → (Nat → Nat → Int) → (Nat → Nat → Int) → Out (SV × Hp)) : (∃ n, cfBlk H kr ku K = .bad n) ∨ ∃ a b c d e f g i j, cfBlk H kr ku K = K a b c d e f g i j := by
  unfold cfBlk
  simp only [fN_eq]
  repeat' split
  all_goals first | exact .inl ⟨_, rfl⟩ | exact .inr ⟨_, _, _, _, _, _, _, _, _, rfl⟩
/-! ### Small functions of numbers -/
def inTree (v lo hi : Int) : Out (SV × Hp) := execF P con0 noAnn 3 2 127 [iv v, iv lo, iv hi] emp
def postIn : List Int → Out SV
  | [v, lo, hi] => .leaf (.c (.bv (decide (lo ≤ v ∧ v ≤ hi))))
  | _ => .bad 400
end
end Go.Proofs.Ytjpnpaboahbncaa.Ck


/- Functions of numbers: the executor's trees, printed by program. -/
set_option linter.unusedVariables false
set_option maxRecDepth 100000
namespace Go.Proofs.Ytjpnpaboahbncaa.Ck
open Go Go.RowKit Sx Cn Dc

theorem in_eq (v lo hi : Int) : inTree v lo hi =
  Out.br (decide (v ≥ lo))
    (Out.leaf (SV.c (SC.bv (decide (v ≤ hi))), { h := [], nxt := 0, D := fun x => True }))
    (Out.leaf (SV.c (SC.kb false), { h := [], nxt := 0, D := fun x => True })) := by kernel_rfl

end Go.Proofs.Ytjpnpaboahbncaa.Ck


/- config.Check: what is said of its loops. -/
set_option linter.unusedVariables false
set_option maxRecDepth 100000
namespace Go.Proofs.Ytjpnpaboahbncaa.Ck
open Go Go.RowKit Sx Cn Dc
theorem three_args {l : List Int} (h : l.length = 3) : ∃ a b c, l = [a, b, c] := by
  match l, h with
  | [a, b, c], _ => exact ⟨a, b, c, rfl⟩
theorem pure127 : PureC P 127 [.i64, .i64, .i64] postIn := pureC_of (execF_ok0 (P := P) (con := con0) (u := 3) ConOK.nil 2) fun l hl K hK => by
  obtain ⟨v, lo, hi, rfl⟩ := three_args hl
  have hK : K (.c (.bv (decide (lo ≤ v ∧ v ≤ hi)))) := hK
  change (inTree v lo hi).holds _
  rw [in_eq]
  simp only [Out.holds]
  refine ⟨fun h => ?_, fun h => ?_⟩
  · have h := of_decide_eq_true h
    refine ⟨rfl, .c (.bv (decide (lo ≤ v ∧ v ≤ hi))), ?_, hK⟩
    show decide (v ≤ hi) = decide (lo ≤ v ∧ v ≤ hi)
    have h' : lo ≤ v := h
    simp [h']
  · have h := of_decide_eq_false h
    refine ⟨rfl, .c (.bv (decide (lo ≤ v ∧ v ≤ hi))), ?_, hK⟩
    show false = decide (lo ≤ v ∧ v ≤ hi)
    have h' : ¬ lo ≤ v := h
    simp [h']
noncomputable section
def con7 : Con := Con.add 127 (conP [.i64, .i64, .i64] postIn) con0
theorem con7_ok : ConOK P con7 := .add (conP_ok pure127) ConOK.nil
variable (c : Cf)
end
end Go.Proofs.Ytjpnpaboahbncaa.Ck

