/- Configurations as arguments; Check of valid ones. -/
import Derived.Test.YtjpnpaboahbncaaMDc
set_option linter.unusedVariables false
set_option linter.unusedSimpArgs false
set_option linter.unusedVariables false
namespace Go.Proofs.Ytjpnpaboahbncaa.Ck
open Go Go.RowKit Sx Cn Dc
noncomputable section
/-- A configuration: its numbers, its programs, its submissions (and the capacities of its slices). -/
structure Cf where
  W : Int
  L : Int
  C : Int
  T : Int
  D : Int
  H : Int
  B : Int
  A : Int
  P : Int
  nP : Nat
  rc : Nat
  nU : Nat
  cu : Nat
  lenP : Nat → Nat
  FC : Nat → Nat
  iO : Nat → Nat → Int
  iA : Nat → Nat → Int
  iB : Nat → Nat → Int
  uP : Nat → Int
  uL : Nat → Int
  uD : Nat → Int
section
variable (c : Cf)
def argC : SV := .a [.iv .i64 c.W, .iv .i64 c.L, .iv .i64 c.C, .iv .i64 c.T, .iv .i64 c.D, .iv .i64 c.H, .iv .i64 c.B, .iv .i64 c.A, .iv .i64 c.P, slK 0 1 c.nP c.rc, slK 1 3 c.nU c.cu]
def cellsC : List (Option SC) := [ivc c.W, ivc c.L, ivc c.C, ivc c.T, ivc c.D, ivc c.H, ivc c.B, ivc c.A, ivc c.P, some (slK 0 1 c.nP c.rc), some (slK 1 3 c.nU c.cu)]
def hC : HL := [(0, .view 1 (fun _ => c.nP) [.cs 2 3 (fun _ e => e) (fun _ e => c.lenP e) (fun _ e => c.FC e)]), (1, .view 1 (fun _ => c.nU) [.ci .i64 fun _ e => c.uP e, .ci .i64 fun _ e => c.uL e, .ci .i64 fun _ e => c.uD e]), (2, .view c.nP c.lenP [.ci .i64 fun i e => c.iO i e, .ci .i64 fun i e => c.iA i e, .ci .i64 fun i e => c.iB i e])]
def okN : Prop := (1 ≤ c.W ∧ c.W ≤ 16) ∧ (1 ≤ c.L ∧ c.L ≤ 64) ∧ (1 ≤ c.C ∧ c.C ≤ min 8 c.L) ∧ (1 ≤ c.T ∧ c.T ≤ 256) ∧ (1 ≤ c.D ∧ c.D ≤ 64) ∧ (1 ≤ c.H ∧ c.H ≤ 64) ∧ (1 ≤ c.B ∧ c.B ≤ c.D) ∧ (0 ≤ c.A ∧ c.A ≤ 65536) ∧ (1 ≤ c.P ∧ c.P ≤ 65536)
def okI (i e : Nat) : Prop := (c.iO i e = 0 ∧ (1 ≤ c.iA i e ∧ c.iA i e ≤ 64) ∧ c.iB i e = 0) ∨ (c.iO i e = 1 ∧ (0 ≤ c.iA i e ∧ c.iA i e ≤ (c.nP : Int) - 1) ∧ (0 ≤ c.iB i e ∧ c.iB i e ≤ c.L - 1)) ∨ (c.iO i e = 2 ∧ (0 ≤ c.iA i e ∧ c.iA i e ≤ 31) ∧ c.iB i e = 0)
def okP : Prop := (1 ≤ c.nP ∧ c.nP ≤ 32) ∧ ∀ i, i < c.nP → c.lenP i ≤ 32 ∧ ∀ e, e < c.lenP i → okI c i e
def okU : Prop := c.nU ≤ 64 ∧ ∀ e, e < c.nU → (0 ≤ c.uP e ∧ c.uP e ≤ (c.nP : Int) - 1) ∧ (0 ≤ c.uL e ∧ c.uL e ≤ c.L - 1) ∧ (0 ≤ c.uD e ∧ c.uD e ≤ 16777215)
def okC : Prop := okN c ∧ okP c ∧ okU c
def postOK (v : SV) : Out (SV × Hp) := .need (okC c) (.leaf (v, ⟨[], 3, fun _ => True⟩))
end
def colsOf : Blk → List Col
  | .row _ _ _ l => l
  | .fam _ _ _ _ l => l
  | .view _ _ l => l
  | _ => []
def numC : SC → Option Int
  | .iv _ x => some x
  | .ki _ x => some x
  | _ => none
/-- The blocks that a configuration's slices name. -/
def cfBlk (H : HL) (kr ku : Nat) (K : Nat → (Nat → Nat → Nat) → (Nat → Nat → Nat) → (Nat → Nat → Int) → (Nat → Nat → Int) → (Nat → Nat → Int) → (Nat → Nat → Int) → (Nat → Nat → Int) → (Nat → Nat → Int) → Out (SV × Hp)) : Out (SV × Hp) :=
  match find kr H, find ku H with
  | some br, some bu => match colsOf br, colsOf bu with
    | [.cs kF _ _ ln cp], [.ci _ f, .ci _ g, .ci _ h] => match find kF H with
      | some bF => match colsOf bF with
        | [.ci _ o, .ci _ a, .ci _ b] => fN kF fun kF => K kF ln cp o a b f g h
        | _ => .bad 430
      | _ => .bad 431
    | _, _ => .bad 432
  | _, _ => .bad 433
/-- A contract of a function of a configuration. -/
def conCf (post : Cf → Out (SV × Hp)) : List SV → Hp → Out (SV × Hp) := fun args H => match args with
  | [.a [x0, x1, x2, x3, x4, x5, x6, x7, x8, .slc kr _ _ _ nP rc, .slc ku _ _ _ nU cu]] => match numC x0, numC x1, numC x2, numC x3, numC x4, numC x5, numC x6, numC x7, numC x8 with
    | some W, some L, some C, some T, some D, some h, some B, some A, some Q => fN kr fun kr => fN ku fun ku => cfBlk H.h kr ku fun kF ln cp o a b f g k => useT [kr, ku, kF] 3
                [argC ⟨W, L, C, T, D, h, B, A, Q, nP.v, rc.v, nU.v, cu.v, fun e => ln 0 e, fun e => cp 0 e, o, a, b, fun e => f 0 e, fun e => g 0 e, fun e => k 0 e⟩]
                (hC ⟨W, L, C, T, D, h, B, A, Q, nP.v, rc.v, nU.v, cu.v, fun e => ln 0 e, fun e => cp 0 e, o, a, b, fun e => f 0 e, fun e => g 0 e, fun e => k 0 e⟩)
                (post ⟨W, L, C, T, D, h, B, A, Q, nP.v, rc.v, nU.v, cu.v, fun e => ln 0 e, fun e => cp 0 e, o, a, b, fun e => f 0 e, fun e => g 0 e, fun e => k 0 e⟩) args H
    | _, _, _, _, _, _, _, _, _ => .bad 434
  | _ => .bad 435
theorem cfBlk_ok (H : HL) (kr ku : Nat) (K : Nat → (Nat → Nat → Nat) → (Nat → Nat → Nat) → (Nat → Nat → Int) → (Nat → Nat → Int) → (Nat → Nat → Int) → (Nat → Nat → Int) → (Nat → Nat → Int) → (Nat → Nat → Int) → Out (SV × Hp)) : (∃ n, cfBlk H kr ku K = .bad n) ∨ ∃ a b c d e f g i j, cfBlk H kr ku K = K a b c d e f g i j := by
  unfold cfBlk
  simp only [fN_eq]
  repeat' split
  all_goals first | exact .inl ⟨_, rfl⟩ | exact .inr ⟨_, _, _, _, _, _, _, _, _, rfl⟩
theorem conCf_ok {f : FuncId} {post : Cf → Out (SV × Hp)} (h : ∀ c, LocalOK P f [argC c] (hC c) 3 (post c)) : ContractOK P f (conCf post) := contract_of_use fun args H => by
  unfold conCf
  simp only [fN_eq]
  repeat' split
  all_goals first | exact .inl ⟨_, rfl⟩ | exact (cfBlk_ok _ _ _ _).elim .inl fun ⟨_, _, _, _, _, _, _, _, _, e⟩ => .inr ⟨_, _, _, _, _, e, h _⟩
/-! ### Small functions of numbers -/
def inTree (v lo hi : Int) : Out (SV × Hp) := execF P con0 noAnn 3 2 127 [iv v, iv lo, iv hi] emp
def postIn : List Int → Out SV
  | [v, lo, hi] => .leaf (.c (.bv (decide (lo ≤ v ∧ v ≤ hi))))
  | _ => .bad 400
def atF (i n first w : Int) : Int := if i < 0 ∨ n ≤ i then -1 else first + i * w
def atTree (i n first w : Int) : Out (SV × Hp) := execF P con0 noAnn 3 2 80 [iv i, iv n, iv first, iv w] emp
def postAt : List Int → Out SV
  | [i, n, first, w] => .need (¬ (i < 0 ∨ n ≤ i) → Fit (i * w) ∧ Fit (first + i * w)) (.leaf (iv (atF i n first w)))
  | _ => .bad 400
end
end Go.Proofs.Ytjpnpaboahbncaa.Ck

/- Functions of numbers: the executor's trees, printed by program. -/
set_option linter.unusedVariables false
set_option maxRecDepth 100000
namespace Go.Proofs.Ytjpnpaboahbncaa.Ck
open Go Go.RowKit Sx Cn Dc

theorem in_eq (v lo hi : Int) : inTree v lo hi =
  Out.br (decide (v ≥ lo))
    (Out.leaf (SV.c (SC.bv (decide (v ≤ hi))), { h := [], nxt := 0, D := fun x => True }))
    (Out.leaf (SV.c (SC.kb false), { h := [], nxt := 0, D := fun x => True })) := by kernel_rfl

theorem at_eq (i n first w : Int) : atTree i n first w =
  Out.br (decide (i < Int.ofNat 0))
    (Out.leaf (SV.c (SC.ki IntKind.i64 (Int.negSucc 0)), { h := [], nxt := 0, D := fun x => True }))
    (Out.br (decide (i ≥ n))
    (Out.leaf (SV.c (SC.ki IntKind.i64 (Int.negSucc 0)), { h := [], nxt := 0, D := fun x => True }))
    (Out.leaf (SV.c (SC.iv IntKind.i64 (IntKind.i64.wrap (first + IntKind.i64.wrap (i * w)))), { h := [], nxt := 0, D := fun x => True }))) := by kernel_rfl


end Go.Proofs.Ytjpnpaboahbncaa.Ck

/- config.Check: what is said of its loops. -/
set_option linter.unusedVariables false
set_option maxRecDepth 100000
namespace Go.Proofs.Ytjpnpaboahbncaa.Ck
open Go Go.RowKit Sx Cn Dc
theorem three_args {l : List Int} (h : l.length = 3) : ∃ a b c, l = [a, b, c] := by
  match l, h with
  | [a, b, c], _ => exact ⟨a, b, c, rfl⟩
theorem four_args {l : List Int} (h : l.length = 4) : ∃ a b c d, l = [a, b, c, d] := by
  match l, h with
  | [a, b, c, d], _ => exact ⟨a, b, c, d, rfl⟩
theorem pure127 : PureC P 127 [.i64, .i64, .i64] postIn := pureC_of (execF_ok0 (P := P) (con := con0) (u := 3) ConOK.nil 2) fun l hl K hK => by
  obtain ⟨v, lo, hi, rfl⟩ := three_args hl
  have hK : K (.c (.bv (decide (lo ≤ v ∧ v ≤ hi)))) := hK
  change (inTree v lo hi).holds _
  rw [in_eq]
  simp only [Out.holds]
  refine ⟨fun h => ?_, fun h => ?_⟩
  · have h := of_decide_eq_true h
    refine ⟨rfl, .c (.bv (decide (lo ≤ v ∧ v ≤ hi))), ?_, hK⟩
    show decide (v ≤ hi) = decide (lo ≤ v ∧ v ≤ hi)
    have h' : lo ≤ v := h
    simp [h']
  · have h := of_decide_eq_false h
    refine ⟨rfl, .c (.bv (decide (lo ≤ v ∧ v ≤ hi))), ?_, hK⟩
    show false = decide (lo ≤ v ∧ v ≤ hi)
    have h' : ¬ lo ≤ v := h
    simp [h']
theorem pure80 : PureC P 80 [.i64, .i64, .i64, .i64] postAt := pureC_of (execF_ok0 (P := P) (con := con0) (u := 3) ConOK.nil 2) fun l hl K hK => by
  obtain ⟨i, n, first, w, rfl⟩ := four_args hl
  obtain ⟨hf, hK⟩ := hK
  have hK : K (iv (atF i n first w)) := hK
  change (atTree i n first w).holds _
  rw [at_eq]
  simp only [Out.holds]
  refine ⟨fun h => ?_, fun h => ⟨fun h2 => ?_, fun h2 => ?_⟩⟩
  · have h := of_decide_eq_true h
    refine ⟨rfl, iv (atF i n first w), ⟨rfl, ?_⟩, hK⟩
    rw [atF, if_pos (.inl h)]; rfl
  · have h2 := of_decide_eq_true h2
    refine ⟨rfl, iv (atF i n first w), ⟨rfl, ?_⟩, hK⟩
    rw [atF, if_pos (.inr h2)]; rfl
  · have h := of_decide_eq_false h
    have h2 := of_decide_eq_false h2
    have hn : ¬ (i < 0 ∨ n ≤ i) := fun h' => h'.elim h h2
    have := hf hn
    refine ⟨rfl, iv (atF i n first w), ⟨rfl, ?_⟩, hK⟩
    rw [atF, if_neg hn, w64 this.1, w64 this.2]
noncomputable section
def con7 : Con := Con.add 127 (conP [.i64, .i64, .i64] postIn) con0
theorem con7_ok : ConOK P con7 := .add (conP_ok pure127) ConOK.nil
variable (c : Cf)
def boxC : Nat × Blk := (3, .own 29 11 (cellsC c))
def t101 (i : Nat) : List (Nat × SV) := [(1, pK 3 11), (13, .c (slK 0 1 c.nP c.rc)), (14, iv (c.nP : Int)), (15, iv i)]
def Jp (i : Nat) : St := ⟨tms 34 (t101 c i), ⟨boxC c :: hC c, 4, fun _ => True⟩⟩
def Ipr (i : Nat) : Prop := okC c ∧ i ≤ c.nP
def Apr : Out (Ex × St) := .leaf (.exit 0, ⟨noTm 34, ⟨[], 4, fun _ => True⟩⟩)
def slI (i : Nat) : SC := .slc 2 (.s i) (.k 0) 3 (.s (c.lenP i)) (.s (c.FC i))
def Jq (i k : Nat) : St := ⟨tms 34 ((22, .c (slI c i)) :: (23, iv (c.lenP i : Int)) :: (24, iv k) :: t101 c i), ⟨boxC c :: hC c, 4, fun _ => True⟩⟩
def Iq (i k : Nat) : Prop := okC c ∧ i < c.nP ∧ k ≤ c.lenP i
def Aq (i : Nat) : Out (Ex × St) := .leaf (.exit 2, ⟨tms 34 (t101 c i), ⟨boxC c :: hC c, 4, fun _ => True⟩⟩)
def roundQ (i k : Nat) : Out (Ex × St) := roundC P con7 (loopIn2 P 101 0 0) 3 3 4 (patOf (Jq c i k) 34 [1, 13, 14, 15]) (Jq c i k)
def annQ (i : Nat) : Ann := loopA (Jq c i) (Iq c i) 4 0 [] (Aq c i)
def roundP (i : Nat) : Out (Ex × St) := roundC P con7 (loopIn P 101 0) 3 3 4 (patOf (Jp c i) 34 []) (Jp c i) [] [annQ c i]
def annP : Ann := loopA (Jp c) (Ipr c) 4 0 [] (Apr)
def main101 : Out (SV × Hp) := execA P con7 101 [annP c] 3 [] 3 101 [argC c] ⟨hC c, 3, fun _ => True⟩
def Ju (i : Nat) : St := ⟨tms 38 [(1, pK 3 11), (10, .c (slK 1 3 c.nU c.cu)), (11, iv (c.nU : Int)), (12, iv i)], ⟨boxC c :: hC c, 4, fun _ => True⟩⟩
def Iu (i : Nat) : Prop := okC c ∧ i ≤ c.nU
def Au : Out (Ex × St) := .leaf (.exit 0, ⟨noTm 38, ⟨[], 4, fun _ => True⟩⟩)
def roundU (i : Nat) : Out (Ex × St) := roundC P con7 (loopIn P 102 0) 3 3 4 (patOf (Ju c i) 38 []) (Ju c i)
def annU : Ann := loopA (Ju c) (Iu c) 4 0 [] (Au)
def main102 : Out (SV × Hp) := execA P con7 102 [annU c] 3 [] 3 102 [argC c] ⟨hC c, 3, fun _ => True⟩
end
end Go.Proofs.Ytjpnpaboahbncaa.Ck

/- config.Check: the executor's trees, printed by program. -/
set_option linter.unusedVariables false
set_option maxRecDepth 100000
namespace Go.Proofs.Ytjpnpaboahbncaa.Ck
open Go Go.RowKit Sx Cn Dc

theorem roundQ_eq (c : Cf) (i k : Nat) : roundQ c i k =
  Out.br (decide ((↑k : Int) < (↑(c.lenP i) : Int)))
    (Out.need (Int.ofNat 0 ≤ (↑k : Int) ∧ (↑k : Int) < (↑(c.lenP i) : Int))
    (Out.need (i < c.nP ∧ 0 + (↑k : Int).toNat < c.lenP i)
    (Out.need (i < c.nP ∧ 0 + (↑k : Int).toNat < c.lenP i)
    (Out.need (i < c.nP ∧ 0 + (↑k : Int).toNat < c.lenP i)
    (Out.need (i < c.nP ∧ 0 + (↑k : Int).toNat < c.lenP i)
    (Out.br (c.iO i (0 + (↑k : Int).toNat) == Int.ofNat 0)
    (Out.br (decide (Int.ofNat 1 ≤ c.iA i (0 + (↑k : Int).toNat) ∧ c.iA i (0 + (↑k : Int).toNat) ≤ Int.ofNat 64))
    (Out.br (!c.iB i (0 + (↑k : Int).toNat) == Int.ofNat 0)
    (Out.leaf (Ex.ret, { tmps := tms 34 [(1, (SV.c (SC.ptr 3 (NV.k 0) (NV.k 0) 0 11))), (13, (SV.c (SC.slc 0 (NV.k 0) (NV.k 0) 1 (NV.s c.nP) (NV.s c.rc)))), (14, (SV.c (SC.iv IntKind.i64 (↑c.nP : Int)))), (15, (SV.c (SC.iv IntKind.i64 (↑i : Int))))], H := { h := [(3, Blk.own 29 11 [some (SC.iv IntKind.i64 c.W), some (SC.iv IntKind.i64 c.L), some (SC.iv IntKind.i64 c.C), some (SC.iv IntKind.i64 c.T), some (SC.iv IntKind.i64 c.D), some (SC.iv IntKind.i64 c.H), some (SC.iv IntKind.i64 c.B), some (SC.iv IntKind.i64 c.A), some (SC.iv IntKind.i64 c.P), some (SC.slc 0 (NV.k 0) (NV.k 0) 1 (NV.s c.nP) (NV.s c.rc)), some (SC.slc 1 (NV.k 0) (NV.k 0) 3 (NV.s c.nU) (NV.s c.cu))]), (0, Blk.view 1 (fun x => c.nP) [Col.cs 2 3 (fun x e => e) (fun x e => c.lenP e) fun x e => c.FC e]), (1, Blk.view 1 (fun x => c.nU) [Col.ci IntKind.i64 fun x e => c.uP e, Col.ci IntKind.i64 fun x e => c.uL e, Col.ci IntKind.i64 fun x e => c.uD e]), (2, Blk.view c.nP c.lenP [Col.ci IntKind.i64 fun i e => c.iO i e, Col.ci IntKind.i64 fun i e => c.iA i e, Col.ci IntKind.i64 fun i e => c.iB i e])], nxt := 7, D := fun x => True } }))
    (Out.leaf (Ex.normal, { tmps := tms 34 [(1, (SV.c (SC.ptr 3 (NV.k 0) (NV.k 0) 0 11))), (13, (SV.c (SC.slc 0 (NV.k 0) (NV.k 0) 1 (NV.s c.nP) (NV.s c.rc)))), (14, (SV.c (SC.iv IntKind.i64 (↑c.nP : Int)))), (15, (SV.c (SC.iv IntKind.i64 (↑i : Int)))), (22, (SV.c (SC.slc 2 (NV.s i) (NV.k 0) 3 (NV.s (c.lenP i)) (NV.s (c.FC i))))), (23, (SV.c (SC.iv IntKind.i64 (↑(c.lenP i) : Int)))), (24, (SV.c (SC.iv IntKind.i64 (IntKind.i64.wrap ((↑k : Int) + Int.ofNat 1)))))], H := { h := [(3, Blk.own 29 11 [some (SC.iv IntKind.i64 c.W), some (SC.iv IntKind.i64 c.L), some (SC.iv IntKind.i64 c.C), some (SC.iv IntKind.i64 c.T), some (SC.iv IntKind.i64 c.D), some (SC.iv IntKind.i64 c.H), some (SC.iv IntKind.i64 c.B), some (SC.iv IntKind.i64 c.A), some (SC.iv IntKind.i64 c.P), some (SC.slc 0 (NV.k 0) (NV.k 0) 1 (NV.s c.nP) (NV.s c.rc)), some (SC.slc 1 (NV.k 0) (NV.k 0) 3 (NV.s c.nU) (NV.s c.cu))]), (0, Blk.view 1 (fun x => c.nP) [Col.cs 2 3 (fun x e => e) (fun x e => c.lenP e) fun x e => c.FC e]), (1, Blk.view 1 (fun x => c.nU) [Col.ci IntKind.i64 fun x e => c.uP e, Col.ci IntKind.i64 fun x e => c.uL e, Col.ci IntKind.i64 fun x e => c.uD e]), (2, Blk.view c.nP c.lenP [Col.ci IntKind.i64 fun i e => c.iO i e, Col.ci IntKind.i64 fun i e => c.iA i e, Col.ci IntKind.i64 fun i e => c.iB i e])], nxt := 7, D := fun x => True } })))
    (Out.leaf (Ex.ret, { tmps := tms 34 [(1, (SV.c (SC.ptr 3 (NV.k 0) (NV.k 0) 0 11))), (13, (SV.c (SC.slc 0 (NV.k 0) (NV.k 0) 1 (NV.s c.nP) (NV.s c.rc)))), (14, (SV.c (SC.iv IntKind.i64 (↑c.nP : Int)))), (15, (SV.c (SC.iv IntKind.i64 (↑i : Int))))], H := { h := [(3, Blk.own 29 11 [some (SC.iv IntKind.i64 c.W), some (SC.iv IntKind.i64 c.L), some (SC.iv IntKind.i64 c.C), some (SC.iv IntKind.i64 c.T), some (SC.iv IntKind.i64 c.D), some (SC.iv IntKind.i64 c.H), some (SC.iv IntKind.i64 c.B), some (SC.iv IntKind.i64 c.A), some (SC.iv IntKind.i64 c.P), some (SC.slc 0 (NV.k 0) (NV.k 0) 1 (NV.s c.nP) (NV.s c.rc)), some (SC.slc 1 (NV.k 0) (NV.k 0) 3 (NV.s c.nU) (NV.s c.cu))]), (0, Blk.view 1 (fun x => c.nP) [Col.cs 2 3 (fun x e => e) (fun x e => c.lenP e) fun x e => c.FC e]), (1, Blk.view 1 (fun x => c.nU) [Col.ci IntKind.i64 fun x e => c.uP e, Col.ci IntKind.i64 fun x e => c.uL e, Col.ci IntKind.i64 fun x e => c.uD e]), (2, Blk.view c.nP c.lenP [Col.ci IntKind.i64 fun i e => c.iO i e, Col.ci IntKind.i64 fun i e => c.iA i e, Col.ci IntKind.i64 fun i e => c.iB i e])], nxt := 7, D := fun x => True } })))
    (Out.br (c.iO i (0 + (↑k : Int).toNat) == Int.ofNat 1)
    (Out.br (decide (Int.ofNat 0 ≤ c.iA i (0 + (↑k : Int).toNat) ∧ c.iA i (0 + (↑k : Int).toNat) ≤ IntKind.i64.wrap ((↑c.nP : Int) - Int.ofNat 1)))
    (Out.br (!decide (Int.ofNat 0 ≤ c.iB i (0 + (↑k : Int).toNat) ∧ c.iB i (0 + (↑k : Int).toNat) ≤ IntKind.i64.wrap (c.L - Int.ofNat 1)))
    (Out.leaf (Ex.ret, { tmps := tms 34 [(1, (SV.c (SC.ptr 3 (NV.k 0) (NV.k 0) 0 11))), (13, (SV.c (SC.slc 0 (NV.k 0) (NV.k 0) 1 (NV.s c.nP) (NV.s c.rc)))), (14, (SV.c (SC.iv IntKind.i64 (↑c.nP : Int)))), (15, (SV.c (SC.iv IntKind.i64 (↑i : Int))))], H := { h := [(3, Blk.own 29 11 [some (SC.iv IntKind.i64 c.W), some (SC.iv IntKind.i64 c.L), some (SC.iv IntKind.i64 c.C), some (SC.iv IntKind.i64 c.T), some (SC.iv IntKind.i64 c.D), some (SC.iv IntKind.i64 c.H), some (SC.iv IntKind.i64 c.B), some (SC.iv IntKind.i64 c.A), some (SC.iv IntKind.i64 c.P), some (SC.slc 0 (NV.k 0) (NV.k 0) 1 (NV.s c.nP) (NV.s c.rc)), some (SC.slc 1 (NV.k 0) (NV.k 0) 3 (NV.s c.nU) (NV.s c.cu))]), (0, Blk.view 1 (fun x => c.nP) [Col.cs 2 3 (fun x e => e) (fun x e => c.lenP e) fun x e => c.FC e]), (1, Blk.view 1 (fun x => c.nU) [Col.ci IntKind.i64 fun x e => c.uP e, Col.ci IntKind.i64 fun x e => c.uL e, Col.ci IntKind.i64 fun x e => c.uD e]), (2, Blk.view c.nP c.lenP [Col.ci IntKind.i64 fun i e => c.iO i e, Col.ci IntKind.i64 fun i e => c.iA i e, Col.ci IntKind.i64 fun i e => c.iB i e])], nxt := 7, D := fun x => True } }))
    (Out.leaf (Ex.normal, { tmps := tms 34 [(1, (SV.c (SC.ptr 3 (NV.k 0) (NV.k 0) 0 11))), (13, (SV.c (SC.slc 0 (NV.k 0) (NV.k 0) 1 (NV.s c.nP) (NV.s c.rc)))), (14, (SV.c (SC.iv IntKind.i64 (↑c.nP : Int)))), (15, (SV.c (SC.iv IntKind.i64 (↑i : Int)))), (22, (SV.c (SC.slc 2 (NV.s i) (NV.k 0) 3 (NV.s (c.lenP i)) (NV.s (c.FC i))))), (23, (SV.c (SC.iv IntKind.i64 (↑(c.lenP i) : Int)))), (24, (SV.c (SC.iv IntKind.i64 (IntKind.i64.wrap ((↑k : Int) + Int.ofNat 1)))))], H := { h := [(3, Blk.own 29 11 [some (SC.iv IntKind.i64 c.W), some (SC.iv IntKind.i64 c.L), some (SC.iv IntKind.i64 c.C), some (SC.iv IntKind.i64 c.T), some (SC.iv IntKind.i64 c.D), some (SC.iv IntKind.i64 c.H), some (SC.iv IntKind.i64 c.B), some (SC.iv IntKind.i64 c.A), some (SC.iv IntKind.i64 c.P), some (SC.slc 0 (NV.k 0) (NV.k 0) 1 (NV.s c.nP) (NV.s c.rc)), some (SC.slc 1 (NV.k 0) (NV.k 0) 3 (NV.s c.nU) (NV.s c.cu))]), (0, Blk.view 1 (fun x => c.nP) [Col.cs 2 3 (fun x e => e) (fun x e => c.lenP e) fun x e => c.FC e]), (1, Blk.view 1 (fun x => c.nU) [Col.ci IntKind.i64 fun x e => c.uP e, Col.ci IntKind.i64 fun x e => c.uL e, Col.ci IntKind.i64 fun x e => c.uD e]), (2, Blk.view c.nP c.lenP [Col.ci IntKind.i64 fun i e => c.iO i e, Col.ci IntKind.i64 fun i e => c.iA i e, Col.ci IntKind.i64 fun i e => c.iB i e])], nxt := 7, D := fun x => True } })))
    (Out.leaf (Ex.ret, { tmps := tms 34 [(1, (SV.c (SC.ptr 3 (NV.k 0) (NV.k 0) 0 11))), (13, (SV.c (SC.slc 0 (NV.k 0) (NV.k 0) 1 (NV.s c.nP) (NV.s c.rc)))), (14, (SV.c (SC.iv IntKind.i64 (↑c.nP : Int)))), (15, (SV.c (SC.iv IntKind.i64 (↑i : Int))))], H := { h := [(3, Blk.own 29 11 [some (SC.iv IntKind.i64 c.W), some (SC.iv IntKind.i64 c.L), some (SC.iv IntKind.i64 c.C), some (SC.iv IntKind.i64 c.T), some (SC.iv IntKind.i64 c.D), some (SC.iv IntKind.i64 c.H), some (SC.iv IntKind.i64 c.B), some (SC.iv IntKind.i64 c.A), some (SC.iv IntKind.i64 c.P), some (SC.slc 0 (NV.k 0) (NV.k 0) 1 (NV.s c.nP) (NV.s c.rc)), some (SC.slc 1 (NV.k 0) (NV.k 0) 3 (NV.s c.nU) (NV.s c.cu))]), (0, Blk.view 1 (fun x => c.nP) [Col.cs 2 3 (fun x e => e) (fun x e => c.lenP e) fun x e => c.FC e]), (1, Blk.view 1 (fun x => c.nU) [Col.ci IntKind.i64 fun x e => c.uP e, Col.ci IntKind.i64 fun x e => c.uL e, Col.ci IntKind.i64 fun x e => c.uD e]), (2, Blk.view c.nP c.lenP [Col.ci IntKind.i64 fun i e => c.iO i e, Col.ci IntKind.i64 fun i e => c.iA i e, Col.ci IntKind.i64 fun i e => c.iB i e])], nxt := 7, D := fun x => True } })))
    (Out.br (c.iO i (0 + (↑k : Int).toNat) == Int.ofNat 2)
    (Out.br (decide (Int.ofNat 0 ≤ c.iA i (0 + (↑k : Int).toNat) ∧ c.iA i (0 + (↑k : Int).toNat) ≤ Int.ofNat 31))
    (Out.br (!c.iB i (0 + (↑k : Int).toNat) == Int.ofNat 0)
    (Out.leaf (Ex.ret, { tmps := tms 34 [(1, (SV.c (SC.ptr 3 (NV.k 0) (NV.k 0) 0 11))), (13, (SV.c (SC.slc 0 (NV.k 0) (NV.k 0) 1 (NV.s c.nP) (NV.s c.rc)))), (14, (SV.c (SC.iv IntKind.i64 (↑c.nP : Int)))), (15, (SV.c (SC.iv IntKind.i64 (↑i : Int))))], H := { h := [(3, Blk.own 29 11 [some (SC.iv IntKind.i64 c.W), some (SC.iv IntKind.i64 c.L), some (SC.iv IntKind.i64 c.C), some (SC.iv IntKind.i64 c.T), some (SC.iv IntKind.i64 c.D), some (SC.iv IntKind.i64 c.H), some (SC.iv IntKind.i64 c.B), some (SC.iv IntKind.i64 c.A), some (SC.iv IntKind.i64 c.P), some (SC.slc 0 (NV.k 0) (NV.k 0) 1 (NV.s c.nP) (NV.s c.rc)), some (SC.slc 1 (NV.k 0) (NV.k 0) 3 (NV.s c.nU) (NV.s c.cu))]), (0, Blk.view 1 (fun x => c.nP) [Col.cs 2 3 (fun x e => e) (fun x e => c.lenP e) fun x e => c.FC e]), (1, Blk.view 1 (fun x => c.nU) [Col.ci IntKind.i64 fun x e => c.uP e, Col.ci IntKind.i64 fun x e => c.uL e, Col.ci IntKind.i64 fun x e => c.uD e]), (2, Blk.view c.nP c.lenP [Col.ci IntKind.i64 fun i e => c.iO i e, Col.ci IntKind.i64 fun i e => c.iA i e, Col.ci IntKind.i64 fun i e => c.iB i e])], nxt := 7, D := fun x => True } }))
    (Out.leaf (Ex.normal, { tmps := tms 34 [(1, (SV.c (SC.ptr 3 (NV.k 0) (NV.k 0) 0 11))), (13, (SV.c (SC.slc 0 (NV.k 0) (NV.k 0) 1 (NV.s c.nP) (NV.s c.rc)))), (14, (SV.c (SC.iv IntKind.i64 (↑c.nP : Int)))), (15, (SV.c (SC.iv IntKind.i64 (↑i : Int)))), (22, (SV.c (SC.slc 2 (NV.s i) (NV.k 0) 3 (NV.s (c.lenP i)) (NV.s (c.FC i))))), (23, (SV.c (SC.iv IntKind.i64 (↑(c.lenP i) : Int)))), (24, (SV.c (SC.iv IntKind.i64 (IntKind.i64.wrap ((↑k : Int) + Int.ofNat 1)))))], H := { h := [(3, Blk.own 29 11 [some (SC.iv IntKind.i64 c.W), some (SC.iv IntKind.i64 c.L), some (SC.iv IntKind.i64 c.C), some (SC.iv IntKind.i64 c.T), some (SC.iv IntKind.i64 c.D), some (SC.iv IntKind.i64 c.H), some (SC.iv IntKind.i64 c.B), some (SC.iv IntKind.i64 c.A), some (SC.iv IntKind.i64 c.P), some (SC.slc 0 (NV.k 0) (NV.k 0) 1 (NV.s c.nP) (NV.s c.rc)), some (SC.slc 1 (NV.k 0) (NV.k 0) 3 (NV.s c.nU) (NV.s c.cu))]), (0, Blk.view 1 (fun x => c.nP) [Col.cs 2 3 (fun x e => e) (fun x e => c.lenP e) fun x e => c.FC e]), (1, Blk.view 1 (fun x => c.nU) [Col.ci IntKind.i64 fun x e => c.uP e, Col.ci IntKind.i64 fun x e => c.uL e, Col.ci IntKind.i64 fun x e => c.uD e]), (2, Blk.view c.nP c.lenP [Col.ci IntKind.i64 fun i e => c.iO i e, Col.ci IntKind.i64 fun i e => c.iA i e, Col.ci IntKind.i64 fun i e => c.iB i e])], nxt := 7, D := fun x => True } })))
    (Out.leaf (Ex.ret, { tmps := tms 34 [(1, (SV.c (SC.ptr 3 (NV.k 0) (NV.k 0) 0 11))), (13, (SV.c (SC.slc 0 (NV.k 0) (NV.k 0) 1 (NV.s c.nP) (NV.s c.rc)))), (14, (SV.c (SC.iv IntKind.i64 (↑c.nP : Int)))), (15, (SV.c (SC.iv IntKind.i64 (↑i : Int))))], H := { h := [(3, Blk.own 29 11 [some (SC.iv IntKind.i64 c.W), some (SC.iv IntKind.i64 c.L), some (SC.iv IntKind.i64 c.C), some (SC.iv IntKind.i64 c.T), some (SC.iv IntKind.i64 c.D), some (SC.iv IntKind.i64 c.H), some (SC.iv IntKind.i64 c.B), some (SC.iv IntKind.i64 c.A), some (SC.iv IntKind.i64 c.P), some (SC.slc 0 (NV.k 0) (NV.k 0) 1 (NV.s c.nP) (NV.s c.rc)), some (SC.slc 1 (NV.k 0) (NV.k 0) 3 (NV.s c.nU) (NV.s c.cu))]), (0, Blk.view 1 (fun x => c.nP) [Col.cs 2 3 (fun x e => e) (fun x e => c.lenP e) fun x e => c.FC e]), (1, Blk.view 1 (fun x => c.nU) [Col.ci IntKind.i64 fun x e => c.uP e, Col.ci IntKind.i64 fun x e => c.uL e, Col.ci IntKind.i64 fun x e => c.uD e]), (2, Blk.view c.nP c.lenP [Col.ci IntKind.i64 fun i e => c.iO i e, Col.ci IntKind.i64 fun i e => c.iA i e, Col.ci IntKind.i64 fun i e => c.iB i e])], nxt := 7, D := fun x => True } })))
    (Out.leaf (Ex.ret, { tmps := tms 34 [(1, (SV.c (SC.ptr 3 (NV.k 0) (NV.k 0) 0 11))), (13, (SV.c (SC.slc 0 (NV.k 0) (NV.k 0) 1 (NV.s c.nP) (NV.s c.rc)))), (14, (SV.c (SC.iv IntKind.i64 (↑c.nP : Int)))), (15, (SV.c (SC.iv IntKind.i64 (↑i : Int))))], H := { h := [(3, Blk.own 29 11 [some (SC.iv IntKind.i64 c.W), some (SC.iv IntKind.i64 c.L), some (SC.iv IntKind.i64 c.C), some (SC.iv IntKind.i64 c.T), some (SC.iv IntKind.i64 c.D), some (SC.iv IntKind.i64 c.H), some (SC.iv IntKind.i64 c.B), some (SC.iv IntKind.i64 c.A), some (SC.iv IntKind.i64 c.P), some (SC.slc 0 (NV.k 0) (NV.k 0) 1 (NV.s c.nP) (NV.s c.rc)), some (SC.slc 1 (NV.k 0) (NV.k 0) 3 (NV.s c.nU) (NV.s c.cu))]), (0, Blk.view 1 (fun x => c.nP) [Col.cs 2 3 (fun x e => e) (fun x e => c.lenP e) fun x e => c.FC e]), (1, Blk.view 1 (fun x => c.nU) [Col.ci IntKind.i64 fun x e => c.uP e, Col.ci IntKind.i64 fun x e => c.uL e, Col.ci IntKind.i64 fun x e => c.uD e]), (2, Blk.view c.nP c.lenP [Col.ci IntKind.i64 fun i e => c.iO i e, Col.ci IntKind.i64 fun i e => c.iA i e, Col.ci IntKind.i64 fun i e => c.iB i e])], nxt := 7, D := fun x => True } }))))))))))
    (Out.leaf (Ex.exit 2, { tmps := tms 34 [(1, (SV.c (SC.ptr 3 (NV.k 0) (NV.k 0) 0 11))), (13, (SV.c (SC.slc 0 (NV.k 0) (NV.k 0) 1 (NV.s c.nP) (NV.s c.rc)))), (14, (SV.c (SC.iv IntKind.i64 (↑c.nP : Int)))), (15, (SV.c (SC.iv IntKind.i64 (↑i : Int))))], H := { h := [(3, Blk.own 29 11 [some (SC.iv IntKind.i64 c.W), some (SC.iv IntKind.i64 c.L), some (SC.iv IntKind.i64 c.C), some (SC.iv IntKind.i64 c.T), some (SC.iv IntKind.i64 c.D), some (SC.iv IntKind.i64 c.H), some (SC.iv IntKind.i64 c.B), some (SC.iv IntKind.i64 c.A), some (SC.iv IntKind.i64 c.P), some (SC.slc 0 (NV.k 0) (NV.k 0) 1 (NV.s c.nP) (NV.s c.rc)), some (SC.slc 1 (NV.k 0) (NV.k 0) 3 (NV.s c.nU) (NV.s c.cu))]), (0, Blk.view 1 (fun x => c.nP) [Col.cs 2 3 (fun x e => e) (fun x e => c.lenP e) fun x e => c.FC e]), (1, Blk.view 1 (fun x => c.nU) [Col.ci IntKind.i64 fun x e => c.uP e, Col.ci IntKind.i64 fun x e => c.uL e, Col.ci IntKind.i64 fun x e => c.uD e]), (2, Blk.view c.nP c.lenP [Col.ci IntKind.i64 fun i e => c.iO i e, Col.ci IntKind.i64 fun i e => c.iA i e, Col.ci IntKind.i64 fun i e => c.iB i e])], nxt := 4, D := fun x => True } })) := by kernel_rfl

theorem roundP_eq (c : Cf) (i : Nat) : roundP c i =
  Out.br (decide ((↑i : Int) < (↑c.nP : Int)))
    (Out.need (Int.ofNat 0 ≤ (↑i : Int) ∧ (↑i : Int) < (↑c.nP : Int))
    (Out.need (0 < 1 ∧ 0 + (↑i : Int).toNat < c.nP)
    (Out.need (0 < 1 ∧ 0 + (↑i : Int).toNat < c.nP)
    (Out.br (decide ((↑(c.lenP (0 + (↑i : Int).toNat)) : Int) > Int.ofNat 32))
    (Out.leaf (Ex.ret, { tmps := tms 34 [], H := { h := [(3, Blk.own 29 11 [some (SC.iv IntKind.i64 c.W), some (SC.iv IntKind.i64 c.L), some (SC.iv IntKind.i64 c.C), some (SC.iv IntKind.i64 c.T), some (SC.iv IntKind.i64 c.D), some (SC.iv IntKind.i64 c.H), some (SC.iv IntKind.i64 c.B), some (SC.iv IntKind.i64 c.A), some (SC.iv IntKind.i64 c.P), some (SC.slc 0 (NV.k 0) (NV.k 0) 1 (NV.s c.nP) (NV.s c.rc)), some (SC.slc 1 (NV.k 0) (NV.k 0) 3 (NV.s c.nU) (NV.s c.cu))]), (0, Blk.view 1 (fun x => c.nP) [Col.cs 2 3 (fun x e => e) (fun x e => c.lenP e) fun x e => c.FC e]), (1, Blk.view 1 (fun x => c.nU) [Col.ci IntKind.i64 fun x e => c.uP e, Col.ci IntKind.i64 fun x e => c.uL e, Col.ci IntKind.i64 fun x e => c.uD e]), (2, Blk.view c.nP c.lenP [Col.ci IntKind.i64 fun i e => c.iO i e, Col.ci IntKind.i64 fun i e => c.iA i e, Col.ci IntKind.i64 fun i e => c.iB i e])], nxt := 4, D := fun x => True } }))
    (Out.need (Iq c i 0 ∧ (∀ (k : Nat), True) ∧ (∀ (k : Nat), True) ∧ ((3 = 3 ∧ 0 = 0 ∧ 0 = 0 ∧ 0 = 0 ∧ 11 = 11) ∧ (0 = 0 ∧ 0 = 0 ∧ 0 = 0 ∧ 1 = 1 ∧ c.nP = c.nP ∧ c.rc = c.rc) ∧ (IntKind.i64 = IntKind.i64 ∧ (↑c.nP : Int) = (↑c.nP : Int)) ∧ (IntKind.i64 = IntKind.i64 ∧ (↑i : Int) = (↑i : Int)) ∧ (2 = 2 ∧ 0 + (↑i : Int).toNat = i ∧ 0 = 0 ∧ 3 = 3 ∧ c.lenP (0 + (↑i : Int).toNat) = c.lenP i ∧ c.FC (0 + (↑i : Int).toNat) = c.FC i) ∧ (IntKind.i64 = IntKind.i64 ∧ (↑(c.lenP (0 + (↑i : Int).toNat)) : Int) = (↑(c.lenP i) : Int)) ∧ (IntKind.i64 = IntKind.i64 ∧ Int.ofNat 0 = (↑0 : Int)) ∧ True) ∧ (29 = 29 ∧ 11 = 11 ∧ (IntKind.i64 = IntKind.i64 ∧ c.W = c.W) ∧ (IntKind.i64 = IntKind.i64 ∧ c.L = c.L) ∧ (IntKind.i64 = IntKind.i64 ∧ c.C = c.C) ∧ (IntKind.i64 = IntKind.i64 ∧ c.T = c.T) ∧ (IntKind.i64 = IntKind.i64 ∧ c.D = c.D) ∧ (IntKind.i64 = IntKind.i64 ∧ c.H = c.H) ∧ (IntKind.i64 = IntKind.i64 ∧ c.B = c.B) ∧ (IntKind.i64 = IntKind.i64 ∧ c.A = c.A) ∧ (IntKind.i64 = IntKind.i64 ∧ c.P = c.P) ∧ (0 = 0 ∧ 0 = 0 ∧ 0 = 0 ∧ 1 = 1 ∧ c.nP = c.nP ∧ c.rc = c.rc) ∧ (1 = 1 ∧ 0 = 0 ∧ 0 = 0 ∧ 3 = 3 ∧ c.nU = c.nU ∧ c.cu = c.cu) ∧ True) ∧ (1 ≤ 1 ∧ (∀ (i : Nat), i < 1 → c.nP ≤ c.nP) ∧ (2 = 2 ∧ 3 = 3 ∧ (∀ (i e : Nat), i < 1 ∧ e < c.nP → e = e) ∧ (∀ (i e : Nat), i < 1 ∧ e < c.nP → c.lenP e = c.lenP e) ∧ ∀ (i e : Nat), i < 1 ∧ e < c.nP → c.FC e = c.FC e) ∧ True) ∧ (1 ≤ 1 ∧ (∀ (i : Nat), i < 1 → c.nU ≤ c.nU) ∧ (IntKind.i64 = IntKind.i64 ∧ ∀ (i e : Nat), i < 1 ∧ e < c.nU → c.uP e = c.uP e) ∧ (IntKind.i64 = IntKind.i64 ∧ ∀ (i e : Nat), i < 1 ∧ e < c.nU → c.uL e = c.uL e) ∧ (IntKind.i64 = IntKind.i64 ∧ ∀ (i e : Nat), i < 1 ∧ e < c.nU → c.uD e = c.uD e) ∧ True) ∧ (c.nP ≤ c.nP ∧ (∀ (i : Nat), i < c.nP → c.lenP i ≤ c.lenP i) ∧ (IntKind.i64 = IntKind.i64 ∧ ∀ (i e : Nat), i < c.nP ∧ e < c.lenP i → c.iO i e = c.iO i e) ∧ (IntKind.i64 = IntKind.i64 ∧ ∀ (i e : Nat), i < c.nP ∧ e < c.lenP i → c.iA i e = c.iA i e) ∧ (IntKind.i64 = IntKind.i64 ∧ ∀ (i e : Nat), i < c.nP ∧ e < c.lenP i → c.iB i e = c.iB i e) ∧ True) ∧ True)
    (Out.leaf (Ex.normal, { tmps := tms 34 [(1, (SV.c (SC.ptr 3 (NV.k 0) (NV.k 0) 0 11))), (13, (SV.c (SC.slc 0 (NV.k 0) (NV.k 0) 1 (NV.s c.nP) (NV.s c.rc)))), (14, (SV.c (SC.iv IntKind.i64 (↑c.nP : Int)))), (15, (SV.c (SC.iv IntKind.i64 (IntKind.i64.wrap ((↑i : Int) + Int.ofNat 1)))))], H := { h := [(3, Blk.own 29 11 [some (SC.iv IntKind.i64 c.W), some (SC.iv IntKind.i64 c.L), some (SC.iv IntKind.i64 c.C), some (SC.iv IntKind.i64 c.T), some (SC.iv IntKind.i64 c.D), some (SC.iv IntKind.i64 c.H), some (SC.iv IntKind.i64 c.B), some (SC.iv IntKind.i64 c.A), some (SC.iv IntKind.i64 c.P), some (SC.slc 0 (NV.k 0) (NV.k 0) 1 (NV.s c.nP) (NV.s c.rc)), some (SC.slc 1 (NV.k 0) (NV.k 0) 3 (NV.s c.nU) (NV.s c.cu))]), (0, Blk.view 1 (fun x => c.nP) [Col.cs 2 3 (fun x e => e) (fun x e => c.lenP e) fun x e => c.FC e]), (1, Blk.view 1 (fun x => c.nU) [Col.ci IntKind.i64 fun x e => c.uP e, Col.ci IntKind.i64 fun x e => c.uL e, Col.ci IntKind.i64 fun x e => c.uD e]), (2, Blk.view c.nP c.lenP [Col.ci IntKind.i64 fun i e => c.iO i e, Col.ci IntKind.i64 fun i e => c.iA i e, Col.ci IntKind.i64 fun i e => c.iB i e])], nxt := 4, D := fun x => True } })))))))
    (Out.leaf (Ex.exit 0, { tmps := tms 34 [], H := { h := [(3, Blk.own 29 11 [some (SC.iv IntKind.i64 c.W), some (SC.iv IntKind.i64 c.L), some (SC.iv IntKind.i64 c.C), some (SC.iv IntKind.i64 c.T), some (SC.iv IntKind.i64 c.D), some (SC.iv IntKind.i64 c.H), some (SC.iv IntKind.i64 c.B), some (SC.iv IntKind.i64 c.A), some (SC.iv IntKind.i64 c.P), some (SC.slc 0 (NV.k 0) (NV.k 0) 1 (NV.s c.nP) (NV.s c.rc)), some (SC.slc 1 (NV.k 0) (NV.k 0) 3 (NV.s c.nU) (NV.s c.cu))]), (0, Blk.view 1 (fun x => c.nP) [Col.cs 2 3 (fun x e => e) (fun x e => c.lenP e) fun x e => c.FC e]), (1, Blk.view 1 (fun x => c.nU) [Col.ci IntKind.i64 fun x e => c.uP e, Col.ci IntKind.i64 fun x e => c.uL e, Col.ci IntKind.i64 fun x e => c.uD e]), (2, Blk.view c.nP c.lenP [Col.ci IntKind.i64 fun i e => c.iO i e, Col.ci IntKind.i64 fun i e => c.iA i e, Col.ci IntKind.i64 fun i e => c.iB i e])], nxt := 4, D := fun x => True } })) := by kernel_rfl

theorem main101_eq (c : Cf) : main101 c =
  Out.br (!decide (Int.ofNat 1 ≤ (↑c.nP : Int) ∧ (↑c.nP : Int) ≤ Int.ofNat 32))
    (Out.leaf (SV.c (SC.ki IntKind.i64 2), { h := [(0, Blk.view 1 (fun x => c.nP) [Col.cs 2 3 (fun x e => e) (fun x e => c.lenP e) fun x e => c.FC e]), (1, Blk.view 1 (fun x => c.nU) [Col.ci IntKind.i64 fun x e => c.uP e, Col.ci IntKind.i64 fun x e => c.uL e, Col.ci IntKind.i64 fun x e => c.uD e]), (2, Blk.view c.nP c.lenP [Col.ci IntKind.i64 fun i e => c.iO i e, Col.ci IntKind.i64 fun i e => c.iA i e, Col.ci IntKind.i64 fun i e => c.iB i e])], nxt := 4, D := fun x => True }))
    (Out.need (Ipr c 0 ∧ (∀ (k : Nat), True) ∧ (∀ (k : Nat), True) ∧ ((3 = 3 ∧ 0 = 0 ∧ 0 = 0 ∧ 0 = 0 ∧ 11 = 11) ∧ (0 = 0 ∧ 0 = 0 ∧ 0 = 0 ∧ 1 = 1 ∧ c.nP = c.nP ∧ c.rc = c.rc) ∧ (IntKind.i64 = IntKind.i64 ∧ (↑c.nP : Int) = (↑c.nP : Int)) ∧ (IntKind.i64 = IntKind.i64 ∧ Int.ofNat 0 = (↑0 : Int)) ∧ True) ∧ (29 = 29 ∧ 11 = 11 ∧ (IntKind.i64 = IntKind.i64 ∧ c.W = c.W) ∧ (IntKind.i64 = IntKind.i64 ∧ c.L = c.L) ∧ (IntKind.i64 = IntKind.i64 ∧ c.C = c.C) ∧ (IntKind.i64 = IntKind.i64 ∧ c.T = c.T) ∧ (IntKind.i64 = IntKind.i64 ∧ c.D = c.D) ∧ (IntKind.i64 = IntKind.i64 ∧ c.H = c.H) ∧ (IntKind.i64 = IntKind.i64 ∧ c.B = c.B) ∧ (IntKind.i64 = IntKind.i64 ∧ c.A = c.A) ∧ (IntKind.i64 = IntKind.i64 ∧ c.P = c.P) ∧ (0 = 0 ∧ 0 = 0 ∧ 0 = 0 ∧ 1 = 1 ∧ c.nP = c.nP ∧ c.rc = c.rc) ∧ (1 = 1 ∧ 0 = 0 ∧ 0 = 0 ∧ 3 = 3 ∧ c.nU = c.nU ∧ c.cu = c.cu) ∧ True) ∧ (1 ≤ 1 ∧ (∀ (i : Nat), i < 1 → c.nP ≤ c.nP) ∧ (2 = 2 ∧ 3 = 3 ∧ (∀ (i e : Nat), i < 1 ∧ e < c.nP → e = e) ∧ (∀ (i e : Nat), i < 1 ∧ e < c.nP → c.lenP e = c.lenP e) ∧ ∀ (i e : Nat), i < 1 ∧ e < c.nP → c.FC e = c.FC e) ∧ True) ∧ (1 ≤ 1 ∧ (∀ (i : Nat), i < 1 → c.nU ≤ c.nU) ∧ (IntKind.i64 = IntKind.i64 ∧ ∀ (i e : Nat), i < 1 ∧ e < c.nU → c.uP e = c.uP e) ∧ (IntKind.i64 = IntKind.i64 ∧ ∀ (i e : Nat), i < 1 ∧ e < c.nU → c.uL e = c.uL e) ∧ (IntKind.i64 = IntKind.i64 ∧ ∀ (i e : Nat), i < 1 ∧ e < c.nU → c.uD e = c.uD e) ∧ True) ∧ (c.nP ≤ c.nP ∧ (∀ (i : Nat), i < c.nP → c.lenP i ≤ c.lenP i) ∧ (IntKind.i64 = IntKind.i64 ∧ ∀ (i e : Nat), i < c.nP ∧ e < c.lenP i → c.iO i e = c.iO i e) ∧ (IntKind.i64 = IntKind.i64 ∧ ∀ (i e : Nat), i < c.nP ∧ e < c.lenP i → c.iA i e = c.iA i e) ∧ (IntKind.i64 = IntKind.i64 ∧ ∀ (i e : Nat), i < c.nP ∧ e < c.lenP i → c.iB i e = c.iB i e) ∧ True) ∧ True)
    (Out.leaf (SV.c (SC.ki IntKind.i64 (Int.ofNat 0)), { h := [], nxt := 4, D := fun x => True }))) := by kernel_rfl

theorem roundU_eq (c : Cf) (i : Nat) : roundU c i =
  Out.br (decide ((↑i : Int) < (↑c.nU : Int)))
    (Out.need (Int.ofNat 0 ≤ (↑i : Int) ∧ (↑i : Int) < (↑c.nU : Int))
    (Out.need (0 < 1 ∧ 0 + (↑i : Int).toNat < c.nU)
    (Out.need (0 < 1 ∧ 0 + (↑i : Int).toNat < c.nU)
    (Out.need (0 < 1 ∧ 0 + (↑i : Int).toNat < c.nU)
    (Out.need (0 < 1 ∧ 0 + (↑i : Int).toNat < c.nU)
    (Out.br (!decide (Int.ofNat 0 ≤ c.uP (0 + (↑i : Int).toNat) ∧ c.uP (0 + (↑i : Int).toNat) ≤ IntKind.i64.wrap ((↑c.nP : Int) - Int.ofNat 1)))
    (Out.leaf (Ex.ret, { tmps := tms 38 [], H := { h := [(3, Blk.own 29 11 [some (SC.iv IntKind.i64 c.W), some (SC.iv IntKind.i64 c.L), some (SC.iv IntKind.i64 c.C), some (SC.iv IntKind.i64 c.T), some (SC.iv IntKind.i64 c.D), some (SC.iv IntKind.i64 c.H), some (SC.iv IntKind.i64 c.B), some (SC.iv IntKind.i64 c.A), some (SC.iv IntKind.i64 c.P), some (SC.slc 0 (NV.k 0) (NV.k 0) 1 (NV.s c.nP) (NV.s c.rc)), some (SC.slc 1 (NV.k 0) (NV.k 0) 3 (NV.s c.nU) (NV.s c.cu))]), (0, Blk.view 1 (fun x => c.nP) [Col.cs 2 3 (fun x e => e) (fun x e => c.lenP e) fun x e => c.FC e]), (1, Blk.view 1 (fun x => c.nU) [Col.ci IntKind.i64 fun x e => c.uP e, Col.ci IntKind.i64 fun x e => c.uL e, Col.ci IntKind.i64 fun x e => c.uD e]), (2, Blk.view c.nP c.lenP [Col.ci IntKind.i64 fun i e => c.iO i e, Col.ci IntKind.i64 fun i e => c.iA i e, Col.ci IntKind.i64 fun i e => c.iB i e])], nxt := 5, D := fun x => True } }))
    (Out.br (!decide (Int.ofNat 0 ≤ c.uL (0 + (↑i : Int).toNat) ∧ c.uL (0 + (↑i : Int).toNat) ≤ IntKind.i64.wrap (c.L - Int.ofNat 1)))
    (Out.leaf (Ex.ret, { tmps := tms 38 [], H := { h := [(3, Blk.own 29 11 [some (SC.iv IntKind.i64 c.W), some (SC.iv IntKind.i64 c.L), some (SC.iv IntKind.i64 c.C), some (SC.iv IntKind.i64 c.T), some (SC.iv IntKind.i64 c.D), some (SC.iv IntKind.i64 c.H), some (SC.iv IntKind.i64 c.B), some (SC.iv IntKind.i64 c.A), some (SC.iv IntKind.i64 c.P), some (SC.slc 0 (NV.k 0) (NV.k 0) 1 (NV.s c.nP) (NV.s c.rc)), some (SC.slc 1 (NV.k 0) (NV.k 0) 3 (NV.s c.nU) (NV.s c.cu))]), (0, Blk.view 1 (fun x => c.nP) [Col.cs 2 3 (fun x e => e) (fun x e => c.lenP e) fun x e => c.FC e]), (1, Blk.view 1 (fun x => c.nU) [Col.ci IntKind.i64 fun x e => c.uP e, Col.ci IntKind.i64 fun x e => c.uL e, Col.ci IntKind.i64 fun x e => c.uD e]), (2, Blk.view c.nP c.lenP [Col.ci IntKind.i64 fun i e => c.iO i e, Col.ci IntKind.i64 fun i e => c.iA i e, Col.ci IntKind.i64 fun i e => c.iB i e])], nxt := 5, D := fun x => True } }))
    (Out.br (!decide (Int.ofNat 0 ≤ c.uD (0 + (↑i : Int).toNat) ∧ c.uD (0 + (↑i : Int).toNat) ≤ Int.ofNat 16777215))
    (Out.leaf (Ex.ret, { tmps := tms 38 [], H := { h := [(3, Blk.own 29 11 [some (SC.iv IntKind.i64 c.W), some (SC.iv IntKind.i64 c.L), some (SC.iv IntKind.i64 c.C), some (SC.iv IntKind.i64 c.T), some (SC.iv IntKind.i64 c.D), some (SC.iv IntKind.i64 c.H), some (SC.iv IntKind.i64 c.B), some (SC.iv IntKind.i64 c.A), some (SC.iv IntKind.i64 c.P), some (SC.slc 0 (NV.k 0) (NV.k 0) 1 (NV.s c.nP) (NV.s c.rc)), some (SC.slc 1 (NV.k 0) (NV.k 0) 3 (NV.s c.nU) (NV.s c.cu))]), (0, Blk.view 1 (fun x => c.nP) [Col.cs 2 3 (fun x e => e) (fun x e => c.lenP e) fun x e => c.FC e]), (1, Blk.view 1 (fun x => c.nU) [Col.ci IntKind.i64 fun x e => c.uP e, Col.ci IntKind.i64 fun x e => c.uL e, Col.ci IntKind.i64 fun x e => c.uD e]), (2, Blk.view c.nP c.lenP [Col.ci IntKind.i64 fun i e => c.iO i e, Col.ci IntKind.i64 fun i e => c.iA i e, Col.ci IntKind.i64 fun i e => c.iB i e])], nxt := 5, D := fun x => True } }))
    (Out.leaf (Ex.normal, { tmps := tms 38 [(1, (SV.c (SC.ptr 3 (NV.k 0) (NV.k 0) 0 11))), (10, (SV.c (SC.slc 1 (NV.k 0) (NV.k 0) 3 (NV.s c.nU) (NV.s c.cu)))), (11, (SV.c (SC.iv IntKind.i64 (↑c.nU : Int)))), (12, (SV.c (SC.iv IntKind.i64 (IntKind.i64.wrap ((↑i : Int) + Int.ofNat 1)))))], H := { h := [(3, Blk.own 29 11 [some (SC.iv IntKind.i64 c.W), some (SC.iv IntKind.i64 c.L), some (SC.iv IntKind.i64 c.C), some (SC.iv IntKind.i64 c.T), some (SC.iv IntKind.i64 c.D), some (SC.iv IntKind.i64 c.H), some (SC.iv IntKind.i64 c.B), some (SC.iv IntKind.i64 c.A), some (SC.iv IntKind.i64 c.P), some (SC.slc 0 (NV.k 0) (NV.k 0) 1 (NV.s c.nP) (NV.s c.rc)), some (SC.slc 1 (NV.k 0) (NV.k 0) 3 (NV.s c.nU) (NV.s c.cu))]), (0, Blk.view 1 (fun x => c.nP) [Col.cs 2 3 (fun x e => e) (fun x e => c.lenP e) fun x e => c.FC e]), (1, Blk.view 1 (fun x => c.nU) [Col.ci IntKind.i64 fun x e => c.uP e, Col.ci IntKind.i64 fun x e => c.uL e, Col.ci IntKind.i64 fun x e => c.uD e]), (2, Blk.view c.nP c.lenP [Col.ci IntKind.i64 fun i e => c.iO i e, Col.ci IntKind.i64 fun i e => c.iA i e, Col.ci IntKind.i64 fun i e => c.iB i e])], nxt := 5, D := fun x => True } }))))))))))
    (Out.leaf (Ex.exit 0, { tmps := tms 38 [], H := { h := [(3, Blk.own 29 11 [some (SC.iv IntKind.i64 c.W), some (SC.iv IntKind.i64 c.L), some (SC.iv IntKind.i64 c.C), some (SC.iv IntKind.i64 c.T), some (SC.iv IntKind.i64 c.D), some (SC.iv IntKind.i64 c.H), some (SC.iv IntKind.i64 c.B), some (SC.iv IntKind.i64 c.A), some (SC.iv IntKind.i64 c.P), some (SC.slc 0 (NV.k 0) (NV.k 0) 1 (NV.s c.nP) (NV.s c.rc)), some (SC.slc 1 (NV.k 0) (NV.k 0) 3 (NV.s c.nU) (NV.s c.cu))]), (0, Blk.view 1 (fun x => c.nP) [Col.cs 2 3 (fun x e => e) (fun x e => c.lenP e) fun x e => c.FC e]), (1, Blk.view 1 (fun x => c.nU) [Col.ci IntKind.i64 fun x e => c.uP e, Col.ci IntKind.i64 fun x e => c.uL e, Col.ci IntKind.i64 fun x e => c.uD e]), (2, Blk.view c.nP c.lenP [Col.ci IntKind.i64 fun i e => c.iO i e, Col.ci IntKind.i64 fun i e => c.iA i e, Col.ci IntKind.i64 fun i e => c.iB i e])], nxt := 4, D := fun x => True } })) := by kernel_rfl

theorem main102_eq (c : Cf) : main102 c =
  Out.br (decide ((↑c.nU : Int) > Int.ofNat 64))
    (Out.leaf (SV.c (SC.ki IntKind.i64 2), { h := [(0, Blk.view 1 (fun x => c.nP) [Col.cs 2 3 (fun x e => e) (fun x e => c.lenP e) fun x e => c.FC e]), (1, Blk.view 1 (fun x => c.nU) [Col.ci IntKind.i64 fun x e => c.uP e, Col.ci IntKind.i64 fun x e => c.uL e, Col.ci IntKind.i64 fun x e => c.uD e]), (2, Blk.view c.nP c.lenP [Col.ci IntKind.i64 fun i e => c.iO i e, Col.ci IntKind.i64 fun i e => c.iA i e, Col.ci IntKind.i64 fun i e => c.iB i e])], nxt := 4, D := fun x => True }))
    (Out.need (Iu c 0 ∧ (∀ (k : Nat), True) ∧ (∀ (k : Nat), True) ∧ ((3 = 3 ∧ 0 = 0 ∧ 0 = 0 ∧ 0 = 0 ∧ 11 = 11) ∧ (1 = 1 ∧ 0 = 0 ∧ 0 = 0 ∧ 3 = 3 ∧ c.nU = c.nU ∧ c.cu = c.cu) ∧ (IntKind.i64 = IntKind.i64 ∧ (↑c.nU : Int) = (↑c.nU : Int)) ∧ (IntKind.i64 = IntKind.i64 ∧ Int.ofNat 0 = (↑0 : Int)) ∧ True) ∧ (29 = 29 ∧ 11 = 11 ∧ (IntKind.i64 = IntKind.i64 ∧ c.W = c.W) ∧ (IntKind.i64 = IntKind.i64 ∧ c.L = c.L) ∧ (IntKind.i64 = IntKind.i64 ∧ c.C = c.C) ∧ (IntKind.i64 = IntKind.i64 ∧ c.T = c.T) ∧ (IntKind.i64 = IntKind.i64 ∧ c.D = c.D) ∧ (IntKind.i64 = IntKind.i64 ∧ c.H = c.H) ∧ (IntKind.i64 = IntKind.i64 ∧ c.B = c.B) ∧ (IntKind.i64 = IntKind.i64 ∧ c.A = c.A) ∧ (IntKind.i64 = IntKind.i64 ∧ c.P = c.P) ∧ (0 = 0 ∧ 0 = 0 ∧ 0 = 0 ∧ 1 = 1 ∧ c.nP = c.nP ∧ c.rc = c.rc) ∧ (1 = 1 ∧ 0 = 0 ∧ 0 = 0 ∧ 3 = 3 ∧ c.nU = c.nU ∧ c.cu = c.cu) ∧ True) ∧ (1 ≤ 1 ∧ (∀ (i : Nat), i < 1 → c.nP ≤ c.nP) ∧ (2 = 2 ∧ 3 = 3 ∧ (∀ (i e : Nat), i < 1 ∧ e < c.nP → e = e) ∧ (∀ (i e : Nat), i < 1 ∧ e < c.nP → c.lenP e = c.lenP e) ∧ ∀ (i e : Nat), i < 1 ∧ e < c.nP → c.FC e = c.FC e) ∧ True) ∧ (1 ≤ 1 ∧ (∀ (i : Nat), i < 1 → c.nU ≤ c.nU) ∧ (IntKind.i64 = IntKind.i64 ∧ ∀ (i e : Nat), i < 1 ∧ e < c.nU → c.uP e = c.uP e) ∧ (IntKind.i64 = IntKind.i64 ∧ ∀ (i e : Nat), i < 1 ∧ e < c.nU → c.uL e = c.uL e) ∧ (IntKind.i64 = IntKind.i64 ∧ ∀ (i e : Nat), i < 1 ∧ e < c.nU → c.uD e = c.uD e) ∧ True) ∧ (c.nP ≤ c.nP ∧ (∀ (i : Nat), i < c.nP → c.lenP i ≤ c.lenP i) ∧ (IntKind.i64 = IntKind.i64 ∧ ∀ (i e : Nat), i < c.nP ∧ e < c.lenP i → c.iO i e = c.iO i e) ∧ (IntKind.i64 = IntKind.i64 ∧ ∀ (i e : Nat), i < c.nP ∧ e < c.lenP i → c.iA i e = c.iA i e) ∧ (IntKind.i64 = IntKind.i64 ∧ ∀ (i e : Nat), i < c.nP ∧ e < c.lenP i → c.iB i e = c.iB i e) ∧ True) ∧ True)
    (Out.leaf (SV.c (SC.ki IntKind.i64 (Int.ofNat 0)), { h := [], nxt := 4, D := fun x => True }))) := by kernel_rfl


end Go.Proofs.Ytjpnpaboahbncaa.Ck

/- config.Check of a valid configuration: the contract. -/
set_option linter.unusedVariables false
set_option linter.unusedSimpArgs false
set_option maxRecDepth 100000
namespace Go.Proofs.Ytjpnpaboahbncaa.Ck
open Go Go.RowKit Sx Cn Dc
theorem roundQ_ok (c : Cf) (i k : Nat) (hx : Iq c i k) (K : Ex × St → Prop) (hA : (Aq c i).holds K) :
    Holds (roundQ c i k) (RoundEnd (Jq c i) (Iq c i) (fun k => c.lenP i - k) 4 4 K k) := by
  constructor
  rw [roundQ_eq]
  obtain ⟨hc, hi, hk⟩ := hx
  have hP := hc.2.1.1
  have hL := hc.1.2.1
  have hl := hc.2.1.2 i hi
  have e1 : IntKind.i64.wrap ((c.nP : Int) - 1) = (c.nP : Int) - 1 := w64 (by omega)
  have e2 : IntKind.i64.wrap (c.L - 1) = c.L - 1 := w64 (by omega)
  have e3 : IntKind.i64.wrap ((k : Int) + 1) = ((k + 1 : Nat) : Int) := w64 (by omega)
  simp only [Out.holds, eq_self, true_and, and_true, Nat.le_refl, implies_true, Int.ofNat_eq_natCast, Nat.lt_add_one, gt_iff_lt, Nat.zero_lt_one, Int.toNat_natCast, Nat.zero_add, decide_eq_true_eq, decide_eq_false_iff_not, Bool.not_eq_true', Bool.not_eq_false', beq_iff_eq, beq_eq_false_iff_ne, ne_eq, Int.natCast_zero, Int.natCast_one, Int.cast_ofNat_Int, e1, e2, e3]
  have fin : k < c.lenP i → ∀ s : St, goR 4 [] s (Jq c i (k + 1)) → RoundEnd (Jq c i) (Iq c i) (fun k => c.lenP i - k) 4 4 K k (.normal, s) := fun h s hs => ⟨k + 1, [], ⟨hc, hi, h⟩, (by show c.lenP i - (k + 1) < c.lenP i - k; omega), hs⟩
  refine ⟨fun h => ?_, fun h => ?_⟩
  · have hI := hl.2 k (by omega)
    unfold okI at hI
    (repeat' first | exact True.intro | with_reducible rfl | apply And.intro | intro _)
    all_goals try omega
    all_goals exact fin (by omega) _ ⟨rfl, rfl, ⟨by (repeat' first | exact True.intro | with_reducible rfl | apply And.intro | exact Nat.le_refl _ | (intros; with_reducible rfl) | (intros; assumption) | decide | (intros; exact Nat.le_refl _) | (intros; apply Or.inl; with_reducible rfl)), by (repeat' first | exact True.intro | with_reducible rfl | apply And.intro | exact Nat.le_refl _ | (intros; with_reducible rfl) | (intros; assumption) | decide | (intros; exact Nat.le_refl _) | (intros; apply Or.inl; with_reducible rfl))⟩, rfl⟩
  · have hk : k = c.lenP i := by omega
    exact ⟨_, [], ⟨rfl, rfl, ⟨by (repeat' first | exact True.intro | with_reducible rfl | apply And.intro | exact Nat.le_refl _ | (intros; with_reducible rfl) | (intros; assumption) | decide | (intros; exact Nat.le_refl _) | (intros; apply Or.inl; with_reducible rfl)), by (repeat' first | exact True.intro | with_reducible rfl | apply And.intro | exact Nat.le_refl _ | (intros; with_reducible rfl) | (intros; assumption) | decide | (intros; exact Nat.le_refl _) | (intros; apply Or.inl; with_reducible rfl))⟩, rfl⟩, rfl, Nat.le_refl _, hA⟩
theorem roundP_ok (c : Cf) (i : Nat) (hx : Ipr c i) (K : Ex × St → Prop) (hA : (Apr).holds K) :
    Holds (roundP c i) (RoundEnd (Jp c) (Ipr c) (fun i => c.nP - i) 4 4 K i) := by
  constructor
  rw [roundP_eq]
  obtain ⟨hc, hi⟩ := hx
  have hP := hc.2.1.1
  have e3 : IntKind.i64.wrap ((i : Int) + 1) = ((i + 1 : Nat) : Int) := w64 (by omega)
  simp only [Out.holds, eq_self, true_and, and_true, Nat.le_refl, implies_true, Int.ofNat_eq_natCast, Nat.lt_add_one, gt_iff_lt, Nat.zero_lt_one, Int.toNat_natCast, Nat.zero_add, decide_eq_true_eq, decide_eq_false_iff_not, Bool.not_eq_true', Bool.not_eq_false', beq_iff_eq, beq_eq_false_iff_ne, ne_eq, Int.natCast_zero, Int.natCast_one, Int.cast_ofNat_Int, e3]
  refine ⟨fun h => ?_, fun h => ?_⟩
  · have hl := hc.2.1.2 i (by omega)
    have fin : ∀ s : St, goR 4 [] s (Jp c (i + 1)) → RoundEnd (Jp c) (Ipr c) (fun k => c.nP - k) 4 4 K i (.normal, s) := fun s hs => ⟨i + 1, [], ⟨hc, by omega⟩, (by show c.nP - (i + 1) < c.nP - i; omega), hs⟩
    refine ⟨by omega, by omega, by omega, fun h2 => by omega, fun h2 => ⟨⟨hc, by omega, Nat.zero_le _⟩, fin _ ⟨rfl, rfl, ⟨by (repeat' first | exact True.intro | with_reducible rfl | apply And.intro | exact Nat.le_refl _ | (intros; with_reducible rfl) | (intros; assumption) | decide | (intros; exact Nat.le_refl _) | (intros; apply Or.inl; with_reducible rfl)), by (repeat' first | exact True.intro | with_reducible rfl | apply And.intro | exact Nat.le_refl _ | (intros; with_reducible rfl) | (intros; assumption) | decide | (intros; exact Nat.le_refl _) | (intros; apply Or.inl; with_reducible rfl))⟩, rfl⟩⟩⟩
  · exact ⟨_, [], ⟨rfl, rfl, ⟨by (repeat' first | exact True.intro | with_reducible rfl | apply And.intro | exact Nat.le_refl _ | (intros; with_reducible rfl) | (intros; assumption) | decide | (intros; exact Nat.le_refl _) | (intros; apply Or.inl; with_reducible rfl)), by (repeat' first | exact True.intro | with_reducible rfl | apply And.intro | exact Nat.le_refl _ | (intros; with_reducible rfl) | (intros; assumption) | decide | (intros; exact Nat.le_refl _) | (intros; apply Or.inl; with_reducible rfl))⟩, rfl⟩, rfl, Nat.le_refl _, hA⟩
theorem roundU_ok (c : Cf) (i : Nat) (hx : Iu c i) (K : Ex × St → Prop) (hA : (Au).holds K) :
    Holds (roundU c i) (RoundEnd (Ju c) (Iu c) (fun i => c.nU - i) 4 4 K i) := by
  constructor
  rw [roundU_eq]
  obtain ⟨hc, hi⟩ := hx
  have hP := hc.2.1.1
  have hL := hc.1.2.1
  have hU := hc.2.2.1
  have e1 : IntKind.i64.wrap ((c.nP : Int) - 1) = (c.nP : Int) - 1 := w64 (by omega)
  have e2 : IntKind.i64.wrap (c.L - 1) = c.L - 1 := w64 (by omega)
  have e3 : IntKind.i64.wrap ((i : Int) + 1) = ((i + 1 : Nat) : Int) := w64 (by omega)
  simp only [Out.holds, eq_self, true_and, and_true, Nat.le_refl, implies_true, Int.ofNat_eq_natCast, Nat.lt_add_one, gt_iff_lt, Nat.zero_lt_one, Int.toNat_natCast, Nat.zero_add, decide_eq_true_eq, decide_eq_false_iff_not, Bool.not_eq_true', Bool.not_eq_false', beq_iff_eq, beq_eq_false_iff_ne, ne_eq, Int.natCast_zero, Int.natCast_one, Int.cast_ofNat_Int, e1, e2, e3]
  refine ⟨fun h => ?_, fun h => ?_⟩
  · have hl := hc.2.2.2 i (by omega)
    have fin : ∀ s : St, goR 4 [] s (Ju c (i + 1)) → RoundEnd (Ju c) (Iu c) (fun k => c.nU - k) 4 4 K i (.normal, s) := fun s hs => ⟨i + 1, [], ⟨hc, by omega⟩, (by show c.nU - (i + 1) < c.nU - i; omega), hs⟩
    (repeat' first | exact True.intro | with_reducible rfl | apply And.intro | intro _)
    all_goals try omega
    all_goals exact fin _ ⟨rfl, rfl, ⟨by (repeat' first | exact True.intro | with_reducible rfl | apply And.intro | exact Nat.le_refl _ | (intros; with_reducible rfl) | (intros; assumption) | decide | (intros; exact Nat.le_refl _) | (intros; apply Or.inl; with_reducible rfl)), by (repeat' first | exact True.intro | with_reducible rfl | apply And.intro | exact Nat.le_refl _ | (intros; with_reducible rfl) | (intros; assumption) | decide | (intros; exact Nat.le_refl _) | (intros; apply Or.inl; with_reducible rfl))⟩, rfl⟩
  · exact ⟨_, [], ⟨rfl, rfl, ⟨by (repeat' first | exact True.intro | with_reducible rfl | apply And.intro | exact Nat.le_refl _ | (intros; with_reducible rfl) | (intros; assumption) | decide | (intros; exact Nat.le_refl _) | (intros; apply Or.inl; with_reducible rfl)), by (repeat' first | exact True.intro | with_reducible rfl | apply And.intro | exact Nat.le_refl _ | (intros; with_reducible rfl) | (intros; assumption) | decide | (intros; exact Nat.le_refl _) | (intros; apply Or.inl; with_reducible rfl))⟩, rfl⟩, rfl, Nat.le_refl _, hA⟩
def okV : SV := .c (.ki .i64 0)
theorem local101 (c : Cf) : LocalOK P 101 [argC c] (hC c) 3 (postOK c okV) :=
  LocalOK.monoR (p := main101 c) (CallOK.local (execA_ok (u := 3) con7_ok (fits1 (loopC_ok (u := 3) (nf := 3) con7_ok (fun i => c.nP - i) 4 (by decide) (fun _ => rfl) (fun _ => rfl) (fun _ => rfl)
    (gs := fun _ => []) (ls := fun i => [annQ c i]) (fun x hx K hA => roundP_ok c x hx K hA) (fun _ _ => trivial)
    (fun i hi => fitsIn1 (loopC_ok (u := 3) (nf := 3) con7_ok (fun k => c.lenP i - k) 4 (by decide) (fun _ => rfl) (fun _ => rfl) (fun _ => rfl) (gs := fun _ => []) (ls := fun _ => []) (fun x hx K hA => roundQ_ok c i x hx K hA) (fun _ _ => trivial) (fun _ _ => fits_nil _))))) 3) 101 [argC c] (hC c) 3) fun K hK => by
    rw [main101_eq]
    obtain ⟨hc, hK⟩ := hK
    have hP := hc.2.1.1
    simp only [Out.holds, eq_self, true_and, and_true, Nat.le_refl, implies_true, Int.ofNat_eq_natCast, Nat.lt_add_one, gt_iff_lt, Nat.zero_lt_one, Int.toNat_natCast, Nat.zero_add, decide_eq_true_eq, decide_eq_false_iff_not, Bool.not_eq_true', Bool.not_eq_false', beq_iff_eq, beq_eq_false_iff_ne, ne_eq, Int.natCast_zero, Int.natCast_one, Int.cast_ofNat_Int]
    refine ⟨fun h => by omega, fun h => ⟨⟨hc, Nat.zero_le _⟩, okV, ⟨[], 3, fun _ => True⟩, [], ⟨rfl, rfl, ⟨by (repeat' first | exact True.intro | with_reducible rfl | apply And.intro | exact Nat.le_refl _ | (intros; with_reducible rfl) | (intros; assumption) | decide | (intros; exact Nat.le_refl _) | (intros; apply Or.inl; with_reducible rfl)), by (repeat' first | exact True.intro | with_reducible rfl | apply And.intro | exact Nat.le_refl _ | (intros; with_reducible rfl) | (intros; assumption) | decide | (intros; exact Nat.le_refl _) | (intros; apply Or.inl; with_reducible rfl))⟩, rfl⟩, rfl, Nat.le_refl _, hK⟩⟩
theorem local102 (c : Cf) : LocalOK P 102 [argC c] (hC c) 3 (postOK c okV) :=
  LocalOK.monoR (p := main102 c) (CallOK.local (execA_ok (u := 3) con7_ok (fits1 (loopC_ok (u := 3) (nf := 3) con7_ok (fun i => c.nU - i) 4 (by decide) (fun _ => rfl) (fun _ => rfl) (fun _ => rfl)
    (gs := fun _ => []) (ls := fun _ => []) (fun x hx K hA => roundU_ok c x hx K hA) (fun _ _ => trivial) (fun _ _ => fits_nil _))) 3) 102 [argC c] (hC c) 3) fun K hK => by
    rw [main102_eq]
    obtain ⟨hc, hK⟩ := hK
    have hU := hc.2.2.1
    simp only [Out.holds, eq_self, true_and, and_true, Nat.le_refl, implies_true, Int.ofNat_eq_natCast, Nat.lt_add_one, gt_iff_lt, Nat.zero_lt_one, Int.toNat_natCast, Nat.zero_add, decide_eq_true_eq, decide_eq_false_iff_not, Bool.not_eq_true', Bool.not_eq_false', beq_iff_eq, beq_eq_false_iff_ne, ne_eq, Int.natCast_zero, Int.natCast_one, Int.cast_ofNat_Int]
    refine ⟨fun h => by omega, fun h => ⟨⟨hc, Nat.zero_le _⟩, okV, ⟨[], 3, fun _ => True⟩, [], ⟨rfl, rfl, ⟨by (repeat' first | exact True.intro | with_reducible rfl | apply And.intro | exact Nat.le_refl _ | (intros; with_reducible rfl) | (intros; assumption) | decide | (intros; exact Nat.le_refl _) | (intros; apply Or.inl; with_reducible rfl)), by (repeat' first | exact True.intro | with_reducible rfl | apply And.intro | exact Nat.le_refl _ | (intros; with_reducible rfl) | (intros; assumption) | decide | (intros; exact Nat.le_refl _) | (intros; apply Or.inl; with_reducible rfl))⟩, rfl⟩, rfl, Nat.le_refl _, hK⟩⟩
noncomputable section
def con101 : List SV → Hp → Out (SV × Hp) := conCf fun c => postOK c okV
theorem con101_ok : ContractOK P 101 con101 := conCf_ok local101
theorem con102_ok : ContractOK P 102 con101 := conCf_ok local102
def con8 : Con := Con.add 101 con101 (Con.add 102 con101 (Con.add 80 (conP [.i64, .i64, .i64, .i64] postAt) con7))
theorem con8_ok : ConOK P con8 := .add con101_ok (.add con102_ok (.add (conP_ok pure80) con7_ok))
def main58 (c : Cf) : Out (SV × Hp) := execF P con8 noAnn 3 3 58 [argC c] ⟨hC c, 3, fun _ => True⟩
end
end Go.Proofs.Ytjpnpaboahbncaa.Ck
