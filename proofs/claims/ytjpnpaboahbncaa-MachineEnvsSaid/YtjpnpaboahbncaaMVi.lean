/- Clone of rows: what is asked, what is answered. -/
import Derived.Test.YtjpnpaboahbncaaMVh
set_option linter.unusedVariables false
set_option linter.unusedSimpArgs false
set_option linter.unusedVariables false
set_option maxRecDepth 100000
namespace Go.Proofs.Ytjpnpaboahbncaa.Vc
open Go Go.RowKit Sx Cn Dc Ck
noncomputable section
def R3.cols (r : R3) : List Col := [.ci .i64 fun _ e => r.o r.i e, .ci .i64 fun _ e => r.a r.i e, .ci .i64 fun _ e => r.b r.i e]
def keyC (s : SV) : Nat := match s with
  | .c x => Sx.keyOf x
  | _ => 0
def verCl3 (f : FuncId) (t : TypeId) (r : R3) : V := verF P con0 3 3 f [(1000000, .nilTmpO 2 t 3 r.cols)] .nil [r.arg 0] ⟨[(0, r.blk)], 1, fun _ => True⟩
  (finV 1 2 (fun s H => capOf (keyC s) H.h) (fun s H => [keyC s]) (fun c => r.n ≤ c) (fun c => .c (slK 1 3 r.n c)) (fun c => [(1, .row t c r.n r.cols)]))
def verClI (r : R3) : V := verCl3 118 94 r
def verClU (r : R3) : V := verCl3 119 96 r
def rowPs (k : Nat) (c : Cf) (cp : Nat) : Blk := .row 92 cp c.nP [.cs k 3 (fun _ e => e) (fun _ e => c.lenP e) (fun _ e => c.FC e)]
def verClP (c : Cf) : V := verF P con0 3 3 117 [(1000000, .nilTmpO 2 92 1 [.cs 1 3 (fun _ e => e) (fun _ e => c.lenP e) (fun _ e => c.FC e)])] .nil [.c (slK 0 1 c.nP c.rc)] ⟨hP 0 c, 2, fun _ => True⟩
  (finV 2 3 (fun s H => capOf (keyC s) H.h) (fun s H => [keyC s]) (fun cp => c.nP ≤ cp) (fun cp => .c (slK 2 1 c.nP cp)) (fun cp => [(2, rowPs 1 c cp)]))
def conCl3 (t : TypeId) : List SV → Hp → Out (SV × Hp) := fun args H => match args with
  | [.c (.slc k i _ _ n cap)] => fN k fun k => match row3 H.h k i n cap with
    | some r => useP [k] 1 [r.arg 0] [(0, r.blk)] (.need (r.n ≤ 1000000) (.any Nat (fun c => r.n ≤ c) fun c => .leaf (.c (slK 1 3 r.n c), ⟨[(1, .row t c r.n r.cols)], 2, fun _ => True⟩))) args H
    | none => .bad 430
  | _ => .bad 431
def conClP : List SV → Hp → Out (SV × Hp) := fun args H => match args with
  | [.c (.slc k _ _ _ n cap)] => fN k fun k => match progOf H.h k n cap with
    | some (kF, c) => fN kF fun kF => useP [k, kF] 2 [.c (slK 0 1 c.nP c.rc)] (hP 0 c) (.need (c.nP ≤ 1000000) (.any Nat (fun cp => c.nP ≤ cp) fun cp => .leaf (.c (slK 2 1 c.nP cp), ⟨[(2, rowPs 1 c cp)], 3, fun _ => True⟩))) args H
    | none => .bad 430
  | _ => .bad 431
end
end Go.Proofs.Ytjpnpaboahbncaa.Vc


/- Clone: the conditions, printed by program. -/
set_option linter.unusedVariables false
set_option maxRecDepth 100000
namespace Go.Proofs.Ytjpnpaboahbncaa.Vc
open Go Go.RowKit Sx Cn Dc Ck

theorem verClI_eq (r : R3) : verClI r =
  V.need (∃ (x : Bool), x = true → ¬(r.i < r.i + 1 ∧ 0 < if r.i = r.i then r.n else 0))
    (V.any Bool (fun (b : Bool) => b = true → ¬(r.i < r.i + 1 ∧ 0 < if r.i = r.i then r.n else 0)) fun (x : Bool) => V.br x
    (V.need (r.n ≤ 0)
    (V.need (0 = r.n)
    (V.need (0 = 0)
    (V.need (0 = 0)
    (V.need (r.n ≤ 0)
    (V.need (∀ (e : Nat), e < r.n → r.o r.i e = r.o r.i e)
    (V.need (∀ (e : Nat), e < r.n → r.a r.i e = r.a r.i e)
    (V.need (∀ (e : Nat), e < r.n → r.b r.i e = r.b r.i e) V.ok))))))))
    (V.need (0 + r.n ≤ if r.i < r.i + 1 then if r.i = r.i then r.n else 0 else 0)
    (V.need (0 = 0)
    (V.need (0 + r.n ≤ 9223372036854775807 ∧ (0 + r.n) * 24 ≤ 140737488355328)
    (V.any Nat (fun (x : Nat) => 0 + r.n ≤ x) fun (x : Nat) => V.need (r.n ≤ x)
    (V.need (0 + r.n = r.n)
    (V.need (x = x)
    (V.need (x = x)
    (V.need (r.n ≤ 0 + r.n)
    (V.need (∀ (e : Nat), e < r.n → r.o r.i (0 + e) = r.o r.i e)
    (V.need (∀ (e : Nat), e < r.n → r.a r.i (0 + e) = r.a r.i e)
    (V.need (∀ (e : Nat), e < r.n → r.b r.i (0 + e) = r.b r.i e) V.ok)))))))))))) := by kernel_rfl

theorem verClU_eq (r : R3) : verClU r =
  V.need (∃ (x : Bool), x = true → ¬(r.i < r.i + 1 ∧ 0 < if r.i = r.i then r.n else 0))
    (V.any Bool (fun (b : Bool) => b = true → ¬(r.i < r.i + 1 ∧ 0 < if r.i = r.i then r.n else 0)) fun (x : Bool) => V.br x
    (V.need (r.n ≤ 0)
    (V.need (0 = r.n)
    (V.need (0 = 0)
    (V.need (0 = 0)
    (V.need (r.n ≤ 0)
    (V.need (∀ (e : Nat), e < r.n → r.o r.i e = r.o r.i e)
    (V.need (∀ (e : Nat), e < r.n → r.a r.i e = r.a r.i e)
    (V.need (∀ (e : Nat), e < r.n → r.b r.i e = r.b r.i e) V.ok))))))))
    (V.need (0 + r.n ≤ if r.i < r.i + 1 then if r.i = r.i then r.n else 0 else 0)
    (V.need (0 = 0)
    (V.need (0 + r.n ≤ 9223372036854775807 ∧ (0 + r.n) * 24 ≤ 140737488355328)
    (V.any Nat (fun (x : Nat) => 0 + r.n ≤ x) fun (x : Nat) => V.need (r.n ≤ x)
    (V.need (0 + r.n = r.n)
    (V.need (x = x)
    (V.need (x = x)
    (V.need (r.n ≤ 0 + r.n)
    (V.need (∀ (e : Nat), e < r.n → r.o r.i (0 + e) = r.o r.i e)
    (V.need (∀ (e : Nat), e < r.n → r.a r.i (0 + e) = r.a r.i e)
    (V.need (∀ (e : Nat), e < r.n → r.b r.i (0 + e) = r.b r.i e) V.ok)))))))))))) := by kernel_rfl

theorem verClP_eq (c : Cf) : verClP c =
  V.need (∃ (x : Bool), x = true → ¬(0 < 1 ∧ 0 < c.nP))
    (V.any Bool (fun (b : Bool) => b = true → ¬(0 < 1 ∧ 0 < c.nP)) fun (x : Bool) => V.br x
    (V.need (c.nP ≤ 0)
    (V.need (0 = c.nP)
    (V.need (0 = 0)
    (V.need (0 = 0)
    (V.need (c.nP ≤ 0)
    (V.need (∀ (e : Nat), e < c.nP → e = e)
    (V.need (∀ (e : Nat), e < c.nP → c.lenP e = c.lenP e)
    (V.need (∀ (e : Nat), e < c.nP → c.FC e = c.FC e) V.ok))))))))
    (V.need (0 + c.nP ≤ c.nP)
    (V.need (0 = 0)
    (V.need (0 + c.nP ≤ 9223372036854775807 ∧ (0 + c.nP) * 24 ≤ 140737488355328)
    (V.any Nat (fun (x : Nat) => 0 + c.nP ≤ x) fun (x : Nat) => V.need (c.nP ≤ x)
    (V.need (0 + c.nP = c.nP)
    (V.need (x = x)
    (V.need (x = x)
    (V.need (c.nP ≤ 0 + c.nP)
    (V.need (∀ (e : Nat), e < c.nP → 0 + e = e)
    (V.need (∀ (e : Nat), e < c.nP → c.lenP (0 + e) = c.lenP e)
    (V.need (∀ (e : Nat), e < c.nP → c.FC (0 + e) = c.FC e) V.ok)))))))))))) := by kernel_rfl


end Go.Proofs.Ytjpnpaboahbncaa.Vc


/- Clone of rows: the contracts; config.Clone: what is said of its loop. -/
set_option linter.unusedVariables false
set_option linter.unusedSimpArgs false
set_option maxRecDepth 100000
namespace Go.Proofs.Ytjpnpaboahbncaa.Vc
open Go Go.RowKit Sx Cn Dc Ck
theorem vhClI {r : R3} (h : r.n ≤ 1000000) : VHolds (verClI r) ∧ VHolds (verClU r) := by
  constructor
  all_goals
    constructor
    first | rw [verClI_eq] | rw [verClU_eq]
    simp only [V.holds, Int.ofNat_eq_natCast, decide_eq_true_eq, decide_eq_false_iff_not, Bool.not_eq_true', Bool.not_eq_false', bne_iff_ne, bne_eq_false_iff_eq, beq_iff_eq, beq_eq_false_iff_ne, ne_eq, true_and, and_true, forall_const, true_implies, implies_true, Nat.zero_add, Nat.sub_zero, Nat.lt_add_one, Nat.zero_lt_one, Int.natCast_zero, Int.natCast_one, Int.cast_ofNat_Int, gt_iff_lt, and_self, eq_self, Nat.le_refl, if_true]
    repeat' first | exact True.intro | with_reducible apply And.intro | intro _
    all_goals first
      | omega
      | exact ⟨false, by simp⟩
      | (simp_all <;> omega)
theorem vhClP {c : Cf} (h : c.nP ≤ 1000000) : VHolds (verClP c) := by
  constructor
  rw [verClP_eq]
  simp only [V.holds, Int.ofNat_eq_natCast, decide_eq_true_eq, decide_eq_false_iff_not, Bool.not_eq_true', Bool.not_eq_false', bne_iff_ne, bne_eq_false_iff_eq, beq_iff_eq, beq_eq_false_iff_ne, ne_eq, true_and, and_true, forall_const, true_implies, implies_true, Nat.zero_add, Nat.sub_zero, Nat.lt_add_one, Nat.zero_lt_one, Int.natCast_zero, Int.natCast_one, Int.cast_ofNat_Int, gt_iff_lt, and_self, eq_self, Nat.le_refl, if_true]
  repeat' first | exact True.intro | with_reducible apply And.intro | intro _
  all_goals first
    | omega
    | exact ⟨false, by simp⟩
    | (simp_all <;> omega)
theorem conClI_ok : ContractOK P 118 (conCl3 94) := contract_of_useP fun args H => by
  unfold conCl3
  simp only [fN_eq]
  repeat' split
  all_goals first
    | exact .inl ⟨_, rfl⟩
    | exact .inr ⟨_, _, _, _, _, rfl, local_of_ver ConOK.nil fun h => (vhClI h).1⟩
theorem conClU_ok : ContractOK P 119 (conCl3 96) := contract_of_useP fun args H => by
  unfold conCl3
  simp only [fN_eq]
  repeat' split
  all_goals first
    | exact .inl ⟨_, rfl⟩
    | exact .inr ⟨_, _, _, _, _, rfl, local_of_ver ConOK.nil fun h => (vhClI h).2⟩
theorem conClP_ok : ContractOK P 117 conClP := contract_of_useP fun args H => by
  unfold conClP
  simp only [fN_eq]
  repeat' split
  all_goals first
    | exact .inl ⟨_, rfl⟩
    | exact .inr ⟨_, _, _, _, _, rfl, local_of_ver ConOK.nil vhClP⟩
noncomputable section
def conCl : Con := Con.add 118 (conCl3 94) (Con.add 119 (conCl3 96) (Con.add 117 conClP con3))
theorem conCl_ok : ConOK P conCl := .add conClI_ok (.add conClU_ok (.add conClP_ok con3_ok))
/-- The same configuration with slices of other capacities. -/
def clOf (c : Cf) (FC : Nat → Nat) (rc cu : Nat) : Cf := ⟨c.W, c.L, c.C, c.T, c.D, c.H, c.B, c.A, c.P, c.nP, rc, c.nU, cu, fun e => c.lenP e, fun e => FC e, fun i e => c.iO i e, fun i e => c.iA i e, fun i e => c.iB i e, fun e => c.uP e, fun e => c.uL e, fun e => c.uD e⟩
def IsCl (c d : Cf) : Prop := ∃ FC rc cu, ((∀ e, e < c.nP → c.lenP e ≤ FC e) ∧ c.nP ≤ rc ∧ c.nU ≤ cu) ∧ d = clOf c FC rc cu
def pkC (s : St) : Nat := cellK (tkey 1 s) 9 s.H.h
def famLt (k : Nat) (H : Hp) : Nat := match find k H.h with
  | some (.row _ _ _ [.lt _ (.cs F _ _ _ _) _]) => F
  | _ => H.nxt - 1
def fkC (s : St) : Nat := famLt (pkC s) s.H
def capsLt (k : Nat) (H : HL) : Option (Nat → Nat) := match find k H with
  | some (.row _ _ _ [.lt _ (.cs _ _ _ _ c) _]) => some fun e => c 0 e
  | some _ => some fun _ => 0
  | none => none
section
variable (c : Cf)
def colsC : List Col := [.ci .i64 fun i e => c.iO i e, .ci .i64 fun i e => c.iA i e, .ci .i64 fun i e => c.iB i e]
def fC (s : St) : Option (LA (Int × (Nat → Nat))) := match capOf (pkC s) s.H.h with
  | some cp => some ⟨[(pkC, true), (fkC, false)], fun x => [.row 92 cp c.nP [.lt x.1.toNat (.cs (fkC s) 3 (fun _ e => e) (fun _ e => c.lenP e) (fun _ e => x.2 e)) (.cs 2 3 (fun _ e => e) (fun _ e => c.lenP e) (fun _ e => c.FC e))], .fam true 94 (gd x.1.toNat x.2) (gd x.1.toNat c.lenP) (colsC c)],
    [11], fun x => [iv x.1], fun s => match intT 11 s, capsLt (pkC s) s.H.h with | some i, some F => some (i, F) | _, _ => none,
    fun x => 0 ≤ x.1 ∧ x.1 ≤ c.nP ∧ ∀ e, e < x.1.toNat → c.lenP e ≤ x.2 e, fun x => c.nP - x.1.toNat⟩
  | none => none
def rdCl (s : SV) (H : Hp) : Option Cf := match slKs s with
  | some (kr, _, rc, ku, _, cu) => (capsLt kr H.h).map fun F => clOf c F rc cu
  | none => none
def LCl (s : SV) (H : Hp) : List Nat := match slKs s with
  | some (kr, _, _, ku, _, _) => [kr, ku, famLt kr H]
  | none => []
def verClone : V := verF P conCl 3 4 66 [(6, .joinLt pkC 0)] (.loop _ [.newFam 94 (colsC c)] (fC c) .nil .nil) [argC c] ⟨hC c, 3, fun _ => True⟩ (finV 3 6 (rdCl c) LCl (IsCl c) (argCm 3) (hOwn 3))
end
end
end Go.Proofs.Ytjpnpaboahbncaa.Vc


/- config.Clone: the conditions, printed by program. -/
set_option linter.unusedVariables false
set_option maxRecDepth 100000
namespace Go.Proofs.Ytjpnpaboahbncaa.Vc
open Go Go.RowKit Sx Cn Dc Ck

theorem verClone_eq (c : Cf) : verClone c =
  V.need (c.nP = c.nP)
    (V.need (c.rc = c.rc)
    (V.need (1 ≤ 1)
    (V.need (∀ (i : Nat), i < 1 → c.nP ≤ c.nP)
    (V.need (∀ (i e : Nat), i < 1 ∧ e < c.nP → e = e)
    (V.need (∀ (i e : Nat), i < 1 ∧ e < c.nP → c.lenP e = c.lenP e)
    (V.need (∀ (i e : Nat), i < 1 ∧ e < c.nP → c.FC e = c.FC e)
    (V.need (c.nP ≤ c.nP)
    (V.need (∀ (i : Nat), i < c.nP → c.lenP i ≤ c.lenP i)
    (V.need (∀ (i e : Nat), i < c.nP ∧ e < c.lenP i → c.iO i e = c.iO i e)
    (V.need (∀ (i e : Nat), i < c.nP ∧ e < c.lenP i → c.iA i e = c.iA i e)
    (V.need (∀ (i e : Nat), i < c.nP ∧ e < c.lenP i → c.iB i e = c.iB i e)
    (V.need (c.nP ≤ 1000000)
    (V.need (∃ (x : Nat), c.nP ≤ x)
    (V.any Nat (fun (cp : Nat) => c.nP ≤ cp) fun (x : Nat) => V.need (Int.ofNat 0 ≤ Int.ofNat 0 ∧ Int.ofNat 0 ≤ (↑c.nP : Int) ∧ ∀ (e : Nat), e < 0 → c.lenP e ≤ 0)
    (V.need (Int.ofNat 0 = Int.ofNat 0)
    (V.need (x = x)
    (V.need (c.nP ≤ c.nP)
    (V.need (∀ (e : Nat), e < c.nP → ¬e < 0)
    (V.need (∀ (e : Nat), e < c.nP → e = e)
    (V.need (∀ (e : Nat), e < c.nP → c.lenP e = c.lenP e)
    (V.need (∀ (e : Nat), e < c.nP → c.FC e = c.FC e)
    (V.need (∀ (i : Nat), 0 = gd 0 (fun (x : Nat) => 0) i ∨ gd 0 (fun (x : Nat) => 0) i = 0)
    (V.need (∀ (i : Nat), gd 0 c.lenP i ≤ gd 0 (fun (x : Nat) => 0) i ∧ gd 0 c.lenP i ≤ 0)
    (V.need (∀ (i e : Nat), e < gd 0 c.lenP i → c.iO i e = c.iO i e)
    (V.need (∀ (i e : Nat), e < gd 0 c.lenP i → c.iA i e = c.iA i e)
    (V.need (∀ (i e : Nat), e < gd 0 c.lenP i → c.iB i e = c.iB i e)
    (V.any (Int × (Nat → Nat)) (fun (x : Int × (Nat → Nat)) => Int.ofNat 0 ≤ x.fst ∧ x.fst ≤ (↑c.nP : Int) ∧ ∀ (e : Nat), e < x.fst.toNat → c.lenP e ≤ x.snd e) fun (x_1 : Int × (Nat → Nat)) => V.br (decide (x_1.fst < (↑c.nP : Int)))
    (V.need (0 < 1 ∧ 0 < 1)
    (V.need (0 < 1 ∧ 0 < 1)
    (V.need (0 < 1 ∧ 0 < 1)
    (V.need (0 < 1 ∧ 0 < 1)
    (V.need (Int.ofNat 0 ≤ x_1.fst ∧ x_1.fst < (↑c.nP : Int))
    (V.need (0 < 1 ∧ 0 + x_1.fst.toNat < c.nP)
    (V.need (0 < 1 ∧ 0 + x_1.fst.toNat < c.nP)
    (V.br (decide (0 + x_1.fst.toNat < x_1.fst.toNat))
    (V.need (0 + x_1.fst.toNat = 0 + x_1.fst.toNat)
    (V.need (c.lenP (0 + x_1.fst.toNat) = c.lenP (0 + x_1.fst.toNat))
    (V.need (x_1.snd (0 + x_1.fst.toNat) = x_1.snd (0 + x_1.fst.toNat))
    (V.need (∀ (i : Nat), i < 0 + x_1.fst.toNat + 1 → (if i = 0 + x_1.fst.toNat then c.lenP (0 + x_1.fst.toNat) else 0) ≤ gd x_1.fst.toNat c.lenP i ∧ (if i = 0 + x_1.fst.toNat then c.lenP (0 + x_1.fst.toNat) else 0) ≤ gd x_1.fst.toNat x_1.snd i)
    (V.need (∀ (i e : Nat), (i < 0 + x_1.fst.toNat + 1 ∧ e < if i = 0 + x_1.fst.toNat then c.lenP (0 + x_1.fst.toNat) else 0) → c.iO i e = c.iO i e)
    (V.need (∀ (i e : Nat), (i < 0 + x_1.fst.toNat + 1 ∧ e < if i = 0 + x_1.fst.toNat then c.lenP (0 + x_1.fst.toNat) else 0) → c.iA i e = c.iA i e)
    (V.need (∀ (i e : Nat), (i < 0 + x_1.fst.toNat + 1 ∧ e < if i = 0 + x_1.fst.toNat then c.lenP (0 + x_1.fst.toNat) else 0) → c.iB i e = c.iB i e)
    (V.need (c.lenP (0 + x_1.fst.toNat) ≤ 1000000)
    (V.need (∃ (x : Nat), c.lenP (0 + x_1.fst.toNat) ≤ x)
    (V.any Nat (fun (c_1 : Nat) => c.lenP (0 + x_1.fst.toNat) ≤ c_1) fun (x_2 : Nat) => V.need (Int.ofNat 0 ≤ x_1.fst ∧ x_1.fst < (↑c.nP : Int))
    (V.need (0 < 1 ∧ 0 + x_1.fst.toNat < c.nP)
    (V.need (0 + x_1.fst.toNat < c.nP)
    (V.need (True ∧ x_1.fst.toNat = 0 + x_1.fst.toNat ∧ (∀ (i e : Nat), i = 0 ∧ e < c.nP → i = 0) ∧ ∀ (e : Nat), e < 0 + x_1.fst.toNat → e ≠ 0 + x_1.fst.toNat)
    (V.need (Int.ofNat 0 ≤ IntKind.i64.wrap (x_1.fst + Int.ofNat 1) ∧ IntKind.i64.wrap (x_1.fst + Int.ofNat 1) ≤ (↑c.nP : Int) ∧ ∀ (e : Nat), e < (IntKind.i64.wrap (x_1.fst + Int.ofNat 1)).toNat → c.lenP e ≤ if 0 = 0 ∧ e = 0 + x_1.fst.toNat then x_2 else x_1.snd e)
    (V.need (c.nP - (IntKind.i64.wrap (x_1.fst + Int.ofNat 1)).toNat < c.nP - x_1.fst.toNat)
    (V.need (IntKind.i64.wrap (x_1.fst + Int.ofNat 1) = IntKind.i64.wrap (x_1.fst + Int.ofNat 1))
    (V.need (x = x)
    (V.need (c.nP ≤ c.nP)
    (V.need (0 + x_1.fst.toNat + 1 = (IntKind.i64.wrap (x_1.fst + Int.ofNat 1)).toNat)
    (V.need (∀ (i e : Nat), (i = 0 ∧ e < c.nP) ∧ ¬e < 0 + x_1.fst.toNat + 1 → e = e)
    (V.need (∀ (i e : Nat), (i = 0 ∧ e < c.nP) ∧ ¬e < 0 + x_1.fst.toNat + 1 → c.lenP e = c.lenP e)
    (V.need (∀ (i e : Nat), (i = 0 ∧ e < c.nP) ∧ ¬e < 0 + x_1.fst.toNat + 1 → c.FC e = c.FC e)
    (V.need (∀ (i e : Nat), (i = 0 ∧ e < c.nP) ∧ e < 0 + x_1.fst.toNat + 1 → e = e)
    (V.need (∀ (i e : Nat), (i = 0 ∧ e < c.nP) ∧ e < 0 + x_1.fst.toNat + 1 → (if i = 0 ∧ e = 0 + x_1.fst.toNat then c.lenP (0 + x_1.fst.toNat) else c.lenP e) = c.lenP e)
    (V.need (∀ (i e : Nat), (i = 0 ∧ e < c.nP) ∧ e < 0 + x_1.fst.toNat + 1 → (if i = 0 ∧ e = 0 + x_1.fst.toNat then x_2 else x_1.snd e) = if 0 = 0 ∧ e = 0 + x_1.fst.toNat then x_2 else x_1.snd e)
    (V.need (∀ (i : Nat), (if i = 0 + x_1.fst.toNat then x_2 else gd x_1.fst.toNat x_1.snd i) = gd (IntKind.i64.wrap (x_1.fst + Int.ofNat 1)).toNat (fun (e : Nat) => if 0 = 0 ∧ e = 0 + x_1.fst.toNat then x_2 else x_1.snd e) i ∨ gd (IntKind.i64.wrap (x_1.fst + Int.ofNat 1)).toNat (fun (e : Nat) => if 0 = 0 ∧ e = 0 + x_1.fst.toNat then x_2 else x_1.snd e) i = 0)
    (V.need (∀ (i : Nat), gd (IntKind.i64.wrap (x_1.fst + Int.ofNat 1)).toNat c.lenP i ≤ gd (IntKind.i64.wrap (x_1.fst + Int.ofNat 1)).toNat (fun (e : Nat) => if 0 = 0 ∧ e = 0 + x_1.fst.toNat then x_2 else x_1.snd e) i ∧ gd (IntKind.i64.wrap (x_1.fst + Int.ofNat 1)).toNat c.lenP i ≤ if i = 0 + x_1.fst.toNat then c.lenP (0 + x_1.fst.toNat) else gd x_1.fst.toNat c.lenP i)
    (V.need (∀ (i e : Nat), e < gd (IntKind.i64.wrap (x_1.fst + Int.ofNat 1)).toNat c.lenP i → (if i = 0 + x_1.fst.toNat then c.iO (0 + x_1.fst.toNat) e else c.iO i e) = c.iO i e)
    (V.need (∀ (i e : Nat), e < gd (IntKind.i64.wrap (x_1.fst + Int.ofNat 1)).toNat c.lenP i → (if i = 0 + x_1.fst.toNat then c.iA (0 + x_1.fst.toNat) e else c.iA i e) = c.iA i e)
    (V.need (∀ (i e : Nat), e < gd (IntKind.i64.wrap (x_1.fst + Int.ofNat 1)).toNat c.lenP i → (if i = 0 + x_1.fst.toNat then c.iB (0 + x_1.fst.toNat) e else c.iB i e) = c.iB i e) V.ok))))))))))))))))))))))))))))))
    (V.need (0 + x_1.fst.toNat = 0 + x_1.fst.toNat)
    (V.need (c.lenP (0 + x_1.fst.toNat) = c.lenP (0 + x_1.fst.toNat))
    (V.need (c.FC (0 + x_1.fst.toNat) = c.FC (0 + x_1.fst.toNat))
    (V.need (0 + x_1.fst.toNat + 1 ≤ c.nP)
    (V.need (∀ (i : Nat), i < 0 + x_1.fst.toNat + 1 → (if i = 0 + x_1.fst.toNat then c.lenP (0 + x_1.fst.toNat) else 0) ≤ c.lenP i)
    (V.need (∀ (i e : Nat), (i < 0 + x_1.fst.toNat + 1 ∧ e < if i = 0 + x_1.fst.toNat then c.lenP (0 + x_1.fst.toNat) else 0) → c.iO i e = c.iO i e)
    (V.need (∀ (i e : Nat), (i < 0 + x_1.fst.toNat + 1 ∧ e < if i = 0 + x_1.fst.toNat then c.lenP (0 + x_1.fst.toNat) else 0) → c.iA i e = c.iA i e)
    (V.need (∀ (i e : Nat), (i < 0 + x_1.fst.toNat + 1 ∧ e < if i = 0 + x_1.fst.toNat then c.lenP (0 + x_1.fst.toNat) else 0) → c.iB i e = c.iB i e)
    (V.need (c.lenP (0 + x_1.fst.toNat) ≤ 1000000)
    (V.need (∃ (x : Nat), c.lenP (0 + x_1.fst.toNat) ≤ x)
    (V.any Nat (fun (c_1 : Nat) => c.lenP (0 + x_1.fst.toNat) ≤ c_1) fun (x_2 : Nat) => V.need (Int.ofNat 0 ≤ x_1.fst ∧ x_1.fst < (↑c.nP : Int))
    (V.need (0 < 1 ∧ 0 + x_1.fst.toNat < c.nP)
    (V.need (0 + x_1.fst.toNat < c.nP)
    (V.need (True ∧ x_1.fst.toNat = 0 + x_1.fst.toNat ∧ (∀ (i e : Nat), i = 0 ∧ e < c.nP → i = 0) ∧ ∀ (e : Nat), e < 0 + x_1.fst.toNat → e ≠ 0 + x_1.fst.toNat)
    (V.need (Int.ofNat 0 ≤ IntKind.i64.wrap (x_1.fst + Int.ofNat 1) ∧ IntKind.i64.wrap (x_1.fst + Int.ofNat 1) ≤ (↑c.nP : Int) ∧ ∀ (e : Nat), e < (IntKind.i64.wrap (x_1.fst + Int.ofNat 1)).toNat → c.lenP e ≤ if 0 = 0 ∧ e = 0 + x_1.fst.toNat then x_2 else x_1.snd e)
    (V.need (c.nP - (IntKind.i64.wrap (x_1.fst + Int.ofNat 1)).toNat < c.nP - x_1.fst.toNat)
    (V.need (IntKind.i64.wrap (x_1.fst + Int.ofNat 1) = IntKind.i64.wrap (x_1.fst + Int.ofNat 1))
    (V.need (x = x)
    (V.need (c.nP ≤ c.nP)
    (V.need (0 + x_1.fst.toNat + 1 = (IntKind.i64.wrap (x_1.fst + Int.ofNat 1)).toNat)
    (V.need (∀ (i e : Nat), (i = 0 ∧ e < c.nP) ∧ ¬e < 0 + x_1.fst.toNat + 1 → e = e)
    (V.need (∀ (i e : Nat), (i = 0 ∧ e < c.nP) ∧ ¬e < 0 + x_1.fst.toNat + 1 → c.lenP e = c.lenP e)
    (V.need (∀ (i e : Nat), (i = 0 ∧ e < c.nP) ∧ ¬e < 0 + x_1.fst.toNat + 1 → c.FC e = c.FC e)
    (V.need (∀ (i e : Nat), (i = 0 ∧ e < c.nP) ∧ e < 0 + x_1.fst.toNat + 1 → e = e)
    (V.need (∀ (i e : Nat), (i = 0 ∧ e < c.nP) ∧ e < 0 + x_1.fst.toNat + 1 → (if i = 0 ∧ e = 0 + x_1.fst.toNat then c.lenP (0 + x_1.fst.toNat) else c.lenP e) = c.lenP e)
    (V.need (∀ (i e : Nat), (i = 0 ∧ e < c.nP) ∧ e < 0 + x_1.fst.toNat + 1 → (if i = 0 ∧ e = 0 + x_1.fst.toNat then x_2 else x_1.snd e) = if 0 = 0 ∧ e = 0 + x_1.fst.toNat then x_2 else x_1.snd e)
    (V.need (∀ (i : Nat), (if i = 0 + x_1.fst.toNat then x_2 else gd x_1.fst.toNat x_1.snd i) = gd (IntKind.i64.wrap (x_1.fst + Int.ofNat 1)).toNat (fun (e : Nat) => if 0 = 0 ∧ e = 0 + x_1.fst.toNat then x_2 else x_1.snd e) i ∨ gd (IntKind.i64.wrap (x_1.fst + Int.ofNat 1)).toNat (fun (e : Nat) => if 0 = 0 ∧ e = 0 + x_1.fst.toNat then x_2 else x_1.snd e) i = 0)
    (V.need (∀ (i : Nat), gd (IntKind.i64.wrap (x_1.fst + Int.ofNat 1)).toNat c.lenP i ≤ gd (IntKind.i64.wrap (x_1.fst + Int.ofNat 1)).toNat (fun (e : Nat) => if 0 = 0 ∧ e = 0 + x_1.fst.toNat then x_2 else x_1.snd e) i ∧ gd (IntKind.i64.wrap (x_1.fst + Int.ofNat 1)).toNat c.lenP i ≤ if i = 0 + x_1.fst.toNat then c.lenP (0 + x_1.fst.toNat) else gd x_1.fst.toNat c.lenP i)
    (V.need (∀ (i e : Nat), e < gd (IntKind.i64.wrap (x_1.fst + Int.ofNat 1)).toNat c.lenP i → (if i = 0 + x_1.fst.toNat then c.iO (0 + x_1.fst.toNat) e else c.iO i e) = c.iO i e)
    (V.need (∀ (i e : Nat), e < gd (IntKind.i64.wrap (x_1.fst + Int.ofNat 1)).toNat c.lenP i → (if i = 0 + x_1.fst.toNat then c.iA (0 + x_1.fst.toNat) e else c.iA i e) = c.iA i e)
    (V.need (∀ (i e : Nat), e < gd (IntKind.i64.wrap (x_1.fst + Int.ofNat 1)).toNat c.lenP i → (if i = 0 + x_1.fst.toNat then c.iB (0 + x_1.fst.toNat) e else c.iB i e) = c.iB i e) V.ok)))))))))))))))))))))))))))))))))))))))
    (V.need (0 = 0)
    (V.need (c.nU = c.nU)
    (V.need (c.cu = c.cu)
    (V.need (0 + 1 ≤ 1)
    (V.need (∀ (i : Nat), i < 0 + 1 → (if i = 0 then c.nU else 0) ≤ c.nU)
    (V.need (∀ (i e : Nat), (i < 0 + 1 ∧ e < if i = 0 then c.nU else 0) → c.uP e = c.uP e)
    (V.need (∀ (i e : Nat), (i < 0 + 1 ∧ e < if i = 0 then c.nU else 0) → c.uL e = c.uL e)
    (V.need (∀ (i e : Nat), (i < 0 + 1 ∧ e < if i = 0 then c.nU else 0) → c.uD e = c.uD e)
    (V.need (c.nU ≤ 1000000)
    (V.need (∃ (x : Nat), c.nU ≤ x)
    (V.any Nat (fun (c_1 : Nat) => c.nU ≤ c_1) fun (x_2 : Nat) => V.need (IsCl c (clOf c (fun (e : Nat) => x_1.snd e) x x_2))
    (V.need (c.W = c.W)
    (V.need (c.L = c.L)
    (V.need (c.C = c.C)
    (V.need (c.T = c.T)
    (V.need (c.D = c.D)
    (V.need (c.H = c.H)
    (V.need (c.B = c.B)
    (V.need (c.A = c.A)
    (V.need (c.P = c.P)
    (V.need (c.nP = c.nP)
    (V.need (x = x)
    (V.need (c.nU = c.nU)
    (V.need (x_2 = x_2)
    (V.need (x = x)
    (V.need (c.nP ≤ c.nP)
    (V.need (∀ (e : Nat), e < c.nP → e < x_1.fst.toNat)
    (V.need (∀ (e : Nat), e < c.nP → e = e)
    (V.need (∀ (e : Nat), e < c.nP → c.lenP e = c.lenP e)
    (V.need (∀ (e : Nat), e < c.nP → x_1.snd e = x_1.snd e)
    (V.need (x_2 = x_2)
    (V.need (c.nU ≤ c.nU)
    (V.need (∀ (e : Nat), e < c.nU → c.uP e = c.uP e)
    (V.need (∀ (e : Nat), e < c.nU → c.uL e = c.uL e)
    (V.need (∀ (e : Nat), e < c.nU → c.uD e = c.uD e)
    (V.need (∀ (i : Nat), gd x_1.fst.toNat x_1.snd i = gd c.nP (fun (e : Nat) => x_1.snd e) i ∨ gd c.nP (fun (e : Nat) => x_1.snd e) i = 0)
    (V.need (∀ (i : Nat), gd c.nP (fun (e : Nat) => c.lenP e) i ≤ gd c.nP (fun (e : Nat) => x_1.snd e) i ∧ gd c.nP (fun (e : Nat) => c.lenP e) i ≤ gd x_1.fst.toNat c.lenP i)
    (V.need (∀ (i e : Nat), e < gd c.nP (fun (e : Nat) => c.lenP e) i → c.iO i e = c.iO i e)
    (V.need (∀ (i e : Nat), e < gd c.nP (fun (e : Nat) => c.lenP e) i → c.iA i e = c.iA i e)
    (V.need (∀ (i e : Nat), e < gd c.nP (fun (e : Nat) => c.lenP e) i → c.iB i e = c.iB i e) V.ok))))))))))))))))))))))))))))))))))))))))))))))))))))))))))))))))))) := by kernel_rfl


end Go.Proofs.Ytjpnpaboahbncaa.Vc


/- config.Clone: the contract. -/
set_option linter.unusedVariables false
set_option linter.unusedSimpArgs false
set_option maxRecDepth 100000
namespace Go.Proofs.Ytjpnpaboahbncaa.Vc
open Go Go.RowKit Sx Cn Dc Ck
theorem cl_is {c : Cf} {i x z : Nat} {F : Nat → Nat} (h : i = c.nP) (hF : ∀ e, e < i → c.lenP e ≤ F e) (hx : c.nP ≤ x) (hz : c.nU ≤ z) : IsCl c (clOf c (fun e => F e) x z) :=
  ⟨F, x, z, ⟨fun e he => hF e (by omega), hx, hz⟩, rfl⟩
theorem ite_len {A F : Nat → Nat} {i x e : Nat} (h : ∀ e, e < i → A e ≤ F e) (hx : A i ≤ x) (he : e < i + 1) : A e ≤ if e = i then x else F e := by
  split
  · subst_vars; exact hx
  · exact h e (by omega)
theorem gd_ite {A : Nat → Nat} {i j : Nat} : gd (i + 1) A j ≤ if j = i then A i else gd i A j := by
  by_cases e : j = i
  · subst e; simp [gd]
  · rw [if_neg e]; unfold gd; by_cases g : j < i
    · rw [if_pos g, if_pos (by omega)]; exact Nat.le_refl _
    · rw [if_neg (by omega)]; exact Nat.zero_le _
set_option maxHeartbeats 4000000 in
theorem vhClone {c : Cf} (h : preE c) : VHolds (verClone c) := by
  constructor
  rw [verClone_eq]
  obtain ⟨⟨hp, hl⟩, hu⟩ := h
  simp only [V.holds, Int.ofNat_eq_natCast, decide_eq_true_eq, decide_eq_false_iff_not, ge_iff_le, beq_iff_eq, beq_eq_false_iff_ne, Int.natCast_zero, Int.natCast_one, Int.cast_ofNat_Int, true_and, and_true, eq_self, forall_const, true_implies, implies_true, Nat.le_refl, Nat.zero_lt_one, Nat.zero_add, Int.toNat_natCast, Int.toNat_zero, ne_eq, if_true, and_self, Nat.not_lt_zero, false_implies]
  repeat' first
    | exact True.intro
    | with_reducible apply And.intro
    | (refine Prod.forall.2 fun xi F => ?_
       intro hx
       simp only at hx ⊢
       obtain ⟨i, rfl⟩ := Int.eq_ofNat_of_zero_le hx.1
       simp only [Int.toNat_natCast] at hx ⊢
       obtain ⟨hx0, hx1, hx2⟩ := hx)
    | intro _
  all_goals try simp (disch := omega) only [wnat, Int.toNat_natCast]
  all_goals try simp (disch := omega) only [wnat, Int.toNat_natCast] at *
  all_goals try (first
    | omega
    | exact hl _ (by omega)
    | exact ⟨_, Nat.le_refl _⟩
    | exact row_le rfl
    | exact row_le (F := fun _ => c.nU) rfl
    | (split <;> rfl)
    | ((repeat' split) <;> first | rfl | omega | (subst_vars; rfl) | (subst_vars; assumption) | exact (by assumption : ∀ e, e < _ → _) _ (by omega))
    | exact ite_len (by assumption) (by assumption) (by assumption)
    | exact gd_ite
    | (split <;> first | rfl | (rename_i h; rw [h.2]))
    | exact cl_is (show i = c.nP by omega) hx2 (by assumption) (by assumption)
    | ((simp only [gd]; repeat' split) <;> first | omega | (subst_vars; assumption) | (apply hx2; omega)))
noncomputable section
def outCl (c : Cf) : Out (SV × Hp) := .need (preE c) (.any Cf (IsCl c) fun d => .leaf (argCm 3 d, ⟨hOwn 3 d, 6, fun _ => True⟩))
def conClone : List SV → Hp → Out (SV × Hp) := conCfP outCl
theorem conClone_ok : ContractOK P 66 conClone := conCfP_ok fun c => local_of_ver conCl_ok vhClone
end
end Go.Proofs.Ytjpnpaboahbncaa.Vc

